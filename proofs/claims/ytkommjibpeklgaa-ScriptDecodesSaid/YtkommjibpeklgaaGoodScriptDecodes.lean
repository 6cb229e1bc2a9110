/- What is read may be, and takes no more bytes than it was read of; what is written are bytes. -/
import Derived.Test.YtkommjibpeklgaaDecEqScriptDecodes
import Derived.Test.YtkommjibpeklgaaPScriptDecodesx10
namespace Go.Proofs.Ytkommjibpeklgaa.Pure
open Go Go.RowKit Go.Proofs.Ytkommjibpeklgaa.PScriptDecodes
set_option linter.unusedVariables false
set_option linter.unusedSimpArgs false
namespace EncScriptDecodes

theorem digs_short : ∀ (n m : Nat) (u : Int), 1 ≤ m → 0 ≤ u → u < 128 ^ m → (digs n u).length ≤ m
  | 0, m, u, h1, h0, h => by simp [digs]
  | n + 1, m, u, h1, h0, h => by
    unfold digs
    split
    · next hu =>
      obtain ⟨m, rfl⟩ : ∃ k, m = k + 1 := ⟨m - 1, by omega⟩
      have hm : 1 ≤ m := by
        rcases Nat.eq_zero_or_pos m with rfl | hp
        · simp at h; omega
        · exact hp
      have := digs_short n m (u / 128) hm (by omega) (Int.ediv_lt_of_lt_mul (by omega) (by rw [Int.pow_succ] at h; exact h))
      simp only [List.length_cons]; omega
    · simp only [List.length_singleton]; omega

theorem digs_bytes : ∀ (n : Nat) (u : Int), 0 ≤ u → ∀ c ∈ digs n u, 0 ≤ c ∧ c ≤ 255
  | 0, u, h0, c, hc => by simp [digs] at hc
  | n + 1, u, h0, c, hc => by
    unfold digs at hc
    split at hc
    · rcases List.mem_cons.mp hc with rfl | hc
      · rw [or128 u h0]; omega
      · exact digs_bytes n (u / 128) (by omega) c hc
    · simp only [List.mem_singleton] at hc
      subst hc; omega

theorem IsBytes.drop {b : List Int} (h : IsBytes b) (i : Nat) : IsBytes (b.drop i) := fun c hc => h c (List.mem_of_mem_drop hc)
theorem IsBytes.tail {c : Int} {b : List Int} (h : IsBytes (c :: b)) : IsBytes b := fun x hx => h x (by simp [hx])

theorem num?_num_len : ∀ (b : List Int) (i : Nat) (u v : Int) (r : List Int), i ≤ 9 → 0 ≤ u → u < 128 ^ i → num? i u b = some (v, r) → ∃ U, v = zag U ∧ 0 ≤ U ∧ U < 18446744073709551616 ∧ U < 128 ^ (i + (b.length - r.length)) ∧ r.length < b.length
  | [], i, u, v, r, hi, h0, h1, h => by simp [num?] at h
  | c :: b, i, u, v, r, hi, h0, h1, h => by
    have hl := num?_len _ _ _ _ _ h
    have hp := pow_up i hi u c h0 h1
    unfold num? at h
    split at h
    · simp only [Option.some.injEq, Prod.mk.injEq] at h
      obtain ⟨rfl, rfl⟩ := h
      refine ⟨_, rfl, hp.1, hp.2.2, ?_, hl⟩
      simp only [List.length_cons]
      rw [show i + (b.length + 1 - b.length) = i + 1 by omega]
      exact hp.2.1
    · obtain ⟨U, h2, h3, h4, h5, h6⟩ := num?_num_len b (i + 1) _ v r (by omega) hp.1 hp.2.1 h
      refine ⟨U, h2, h3, h4, ?_, hl⟩
      rw [List.length_cons, show i + (b.length + 1 - r.length) = i + 1 + (b.length - r.length) by omega]
      exact h5

theorem nums?_good : ∀ (n : Nat) (b vs r : List Int), nums? n b = some (vs, r) → (∀ a ∈ vs, -9223372036854775808 ≤ a ∧ a ≤ 9223372036854775807) ∧ (vs.flatMap num).length + r.length ≤ b.length
  | 0, b, vs, r, h => by
    simp only [nums?, Option.some.injEq, Prod.mk.injEq] at h
    obtain ⟨rfl, rfl⟩ := h
    simp
  | n + 1, b, vs, r, h => by
    unfold nums? at h
    split at h
    · cases h
    · next v r1 h1 =>
      split at h
      · cases h
      · next vs' r' h2 =>
        simp only [Option.some.injEq, Prod.mk.injEq] at h
        obtain ⟨rfl, rfl⟩ := h
        obtain ⟨U, rfl, u0, u1, u2, hl⟩ := num?_num_len _ 0 0 _ _ (by omega) (by omega) (by simp) h1
        obtain ⟨g1, g2⟩ := nums?_good n _ _ _ h2
        have hz := zag_rng U u0 u1
        have hd : (num (zag U)).length ≤ b.length - r1.length := by
          unfold num
          rw [zig_zag U u0 u1]
          exact digs_short 10 _ U (by omega) u0 (by simpa using u2)
        refine ⟨fun a ha => ?_, ?_⟩
        · rcases List.mem_cons.mp ha with rfl | ha
          · exact hz
          · exact g1 a ha
        · simp only [List.flatMap_cons, List.length_append]; omega

theorem nums_opOf (K : Int) (l : List Int) (h0 : 0 ≤ K) (h12 : K < 12) (hl : l.length = count K) : nums K (opOf K l).f1 (opOf K l).f2 (opOf K l).f3 = l ∧ may 0 0 K (opOf K l).f1 (opOf K l).f2 (opOf K l).f3 = true := by
  rcases kinds K h0 with rfl | rfl | rfl | rfl | rfl | rfl | rfl | rfl | rfl | rfl | rfl | rfl | ⟨h0, h1⟩
  case inr.inr.inr.inr.inr.inr.inr.inr.inr.inr.inr.inr => omega
  · simp [count, nums] at hl; obtain ⟨a, rfl⟩ := List.length_eq_one_iff.mp hl; simp [nums, opOf, may]
  · simp [count, nums] at hl; match l, hl with
    | [a, b], _ => simp [nums, opOf, may]
  · simp [count, nums] at hl; match l, hl with
    | [a, b], _ => simp [nums, opOf, may]
  · simp [count, nums] at hl; obtain ⟨a, rfl⟩ := List.length_eq_one_iff.mp hl; simp [nums, opOf, may]
  · simp [count, nums] at hl; obtain ⟨a, rfl⟩ := List.length_eq_one_iff.mp hl; simp [nums, opOf, may]
  · simp [count, nums] at hl; obtain ⟨a, rfl⟩ := List.length_eq_one_iff.mp hl; simp [nums, opOf, may]
  · simp [count, nums] at hl; subst hl; simp [nums, opOf, may]
  · simp [count, nums] at hl; subst hl; simp [nums, opOf, may]
  · simp [count, nums] at hl; obtain ⟨a, rfl⟩ := List.length_eq_one_iff.mp hl; simp [nums, opOf, may]
  · simp [count, nums] at hl; obtain ⟨a, rfl⟩ := List.length_eq_one_iff.mp hl; simp [nums, opOf, may]
  · simp [count, nums] at hl; match l, hl with
    | [a, b], _ => simp [nums, opOf, may]
  · simp [count, nums] at hl; match l, hl with
    | [a, b], _ => simp [nums, opOf, may]

theorem may_thread (d K a b c : Int) (hd : d < 64) (h : may 0 0 K a b c = true) : may 0 d K a b c = true := by
  unfold may at h ⊢
  rw [if_neg (by omega)] at h ⊢
  exact h

theorem one?_good (c : Int) (r : List Int) (e : S27) (r' : List Int) (hc : 0 ≤ c ∧ c ≤ 255) (hb : IsBytes r) (h : one? c r = (some e, r')) : Good e ∧ (ent e).length + r'.length ≤ r.length + 1 := by
  unfold one? at h
  split at h
  · next h4 =>
    split at h
    · cases h
    · next K r1 =>
      have hK := hb K (by simp)
      split at h
      · cases h
      · next h12 =>
        split at h
        · cases h
        · next vs r2 hn =>
          simp only [Prod.mk.injEq, Option.some.injEq] at h
          obtain ⟨rfl, rfl⟩ := h
          obtain ⟨g1, g2⟩ := nums?_good _ _ _ _ hn
          have hl := (nums?_len _ _ _ _ hn).2
          obtain ⟨n1, n2⟩ := nums_opOf K vs hK.1 (by omega) hl
          have hget : ∀ i, -9223372036854775808 ≤ vs.getD i 0 ∧ vs.getD i 0 ≤ 9223372036854775807 := by
            intro i
            rcases Nat.lt_or_ge i vs.length with hi | hi
            · rw [List.getD_eq_getElem?_getD, List.getElem?_eq_getElem hi]
              exact g1 _ (List.getElem_mem hi)
            · rw [List.getD_eq_getElem?_getD, List.getElem?_eq_none hi]; simp
          have hgood : Good ⟨0, c / 4, opOf K vs⟩ := by
            refine ⟨may_thread (c / 4) _ _ _ _ (by omega) n2, by simp, by simp only; omega, hK.1, hget 0, ?_, ?_⟩
            · simp only [opOf]; split
              · exact hget 1
              · omega
            · simp only [opOf]; split
              · exact hget 1
              · omega
          refine ⟨hgood, ?_⟩
          have he : ent ⟨0, c / 4, opOf K vs⟩ = head ⟨0, c / 4, opOf K vs⟩ :: (K :: vs.flatMap num) := by
            unfold ent
            rw [if_pos hgood.may, if_pos rfl]
            show _ :: ((opOf K vs).f0 :: (nums (opOf K vs).f0 (opOf K vs).f1 (opOf K vs).f2 (opOf K vs).f3).flatMap num) = _
            rw [show (opOf K vs).f0 = K from rfl, n1]
          rw [he]
          simp only [List.length_cons]
          omega
  · next h4 =>
    simp only [Prod.mk.injEq, Option.some.injEq] at h
    obtain ⟨rfl, rfl⟩ := h
    have hgood : Good ⟨c % 4, c / 4, ⟨0, 0, 0, 0⟩⟩ := by
      refine ⟨?_, by simp only; omega, by simp only; omega, by simp, by simp, by simp, by simp⟩
      unfold may
      rw [if_neg (by simp only; omega), if_neg h4]
      rfl
    refine ⟨hgood, ?_⟩
    unfold ent
    rw [if_pos hgood.may, if_neg h4]
    simp only [List.length_cons, List.length_nil]
    omega

theorem one?_bytes (c : Int) (r : List Int) (hb : IsBytes r) : IsBytes (one? c r).2 := by
  unfold one?
  split
  · split
    · exact hb
    · next K r1 =>
      split
      · exact hb.tail
      · split
        · intro x hx; simp at hx
        · next vs r2 hn =>
          rw [← nums?_suffix _ _ _ _ hn]
          exact hb.tail.drop _
  · exact hb

theorem dec_good : ∀ (n : Nat) (b : List Int), IsBytes b → (∀ s ∈ (dec n b).1, Good s) ∧ (wrote (dec n b).1).length ≤ b.length ∧ (dec n b).1.length ≤ b.length
  | 0, b, h => by simp [dec, wrote]
  | n + 1, [], h => by simp [dec, wrote]
  | n + 1, c :: r, h => by
    have hc := h c (by simp)
    have hr := h.tail
    have hb := one?_bytes c r hr
    have hl := one?_len c r
    rw [dec]
    rcases he : one? c r with ⟨e, r'⟩
    rw [he] at hb hl
    obtain ⟨g1, g2, g3⟩ := dec_good n r' hb
    simp only at hl
    cases e with
    | none =>
      simp only [List.length_cons]
      exact ⟨g1, by omega, by omega⟩
    | some e =>
      obtain ⟨k1, k2⟩ := one?_good c r e r' hc hr he
      have hpos : 1 ≤ (ent e).length := by
        unfold ent
        rw [if_pos k1.may]
        simp
      refine ⟨fun s hs => ?_, ?_, ?_⟩
      · rcases List.mem_cons.mp hs with rfl | hs
        · exact k1
        · exact g1 s hs
      · have : wrote (e :: (dec n r').1) = ent e ++ wrote (dec n r').1 := by simp [wrote]
        simp only [this, List.length_append, List.length_cons]
        omega
      · simp only [List.length_cons]; omega

theorem Good.ent_bytes {s : S27} (h : Good s) : IsBytes (ent s) := by
  have hl := h.lt
  have h0 := h.e0
  have h1 := h.d0
  intro c hc
  unfold ent at hc
  rw [if_pos h.may] at hc
  rcases List.mem_cons.mp hc with rfl | hc
  · rw [h.head]; omega
  · split at hc
    · next hz =>
      have hk := (h.op hz).1
      have hk0 := h.k0
      rcases List.mem_cons.mp hc with rfl | hc
      · omega
      · obtain ⟨a, _, ha⟩ := List.mem_flatMap.mp hc
        exact digs_bytes 10 (zig a) (zig_rng a).1 c ha
    · simp at hc

theorem wrote_bytes {l : List S27} (h : ∀ s ∈ l, Good s) : IsBytes (wrote l) := by
  intro c hc
  obtain ⟨s, hs, hc⟩ := List.mem_flatMap.mp hc
  exact (h s hs).ent_bytes c hc

/-- What was written is read again. -/
theorem back (l : List S27) (h : ∀ s ∈ l, Good s) : dec (wrote l).length (wrote l) = (l, 0) := by
  have := dec_wrote l [] (wrote l).length h (by simp)
  rw [List.append_nil] at this
  rw [this]
  have : ∀ n, dec n [] = ([], 0) := by intro n; cases n <;> rfl
  simp [this]

theorem same_self (l : List S27) (hl : l.length ≤ 100000) : ∀ (d k i : Nat), i + d = l.length → d < k → boscagelaw24_Same.l0 k l l (l.length : Int) (i : Int) = some true
  | 0, k, i, h0, h1 => by
    obtain ⟨k, rfl⟩ : ∃ m, k = m + 1 := ⟨k - 1, by omega⟩
    simp only [boscagelaw24_Same.l0]
    rw [if_neg (by omega)]
  | d + 1, k, i, h0, h1 => by
    obtain ⟨k, rfl⟩ : ∃ m, k = m + 1 := ⟨k - 1, by omega⟩
    have ih := same_self l hl d k (i + 1) (by omega) (by omega)
    simp only [boscagelaw24_Same.l0]
    rw [if_pos (by omega), if_pos (by omega), if_pos (by omega), if_pos (by omega), show wrap64 ((i : Int) + 1) = ((i + 1 : Nat) : Int) by unfold wrap64; omega, ih]
    simp

theorem same_refl (k : Nat) (l : List S27) (hl : l.length ≤ 100000) (hk : l.length < k) : boscagelaw24_Same.f k l l = some true := by
  unfold boscagelaw24_Same.f
  rw [if_pos rfl]
  have := same_self l hl l.length k 0 (by omega) hk
  rw [show ((0 : Nat) : Int) = 0 from rfl] at this
  exact this
end EncScriptDecodes
end Go.Proofs.Ytkommjibpeklgaa.Pure
