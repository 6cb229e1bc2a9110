/- Of any number of 64 bits, as a reference, place and count are the ones of the document: no conditions. -/
import Derived.Test.YtaphiekhpnlilaaPRefPartsx1
import Derived.Test.YtaphiekhpnlilaaBits
namespace Go.Proofs.Ytaphiekhpnlilaa.Pure
open Go.RowKit Go.Proofs.Ytaphiekhpnlilaa.PRefParts Go.Proofs.YtaphiekhpnlilaaW.PrintWords Go.Proofs.YtaphiekhpnlilaaW.PrintLast

set_option linter.unusedVariables false
namespace OfRefParts
theorem of_eq (p c : Int) : ref_Of.f p c = some ((c % 8388608) * 1099511627776 + (p + 1) % 1099511627776) := by
  unfold ref_Of.f
  rw [Bits.made]

theorem awake : boscagelaw01_Awake.f = some true := by
  unfold boscagelaw01_Awake.f
  rw [of_eq]
  rfl

theorem rng {a : Int} (h : (Lit.int .i64 a).wf = true) : -9223372036854775808 ≤ a ∧ a ≤ 9223372036854775807 := by
  simpa [Lit.wf, IntKind.min, IntKind.max, IntKind.bits, IntKind.signed] using h

theorem rng32 {a : Int} (h : (Lit.int .u32 a).wf = true) : 0 ≤ a ∧ a ≤ 4294967295 := by
  simpa [Lit.wf, IntKind.min, IntKind.max, IntKind.bits, IntKind.signed] using h

theorem place_eq (r : Int) (h0 : -9223372036854775808 ≤ r) (h1 : r ≤ 9223372036854775807) : ref_Ref_Place.f r = some (r % 1099511627776 - 1) := by
  unfold ref_Ref_Place.f
  rw [Bits.and40]
  congr 1
  unfold wrap64
  omega

theorem count_eq (r : Int) : ref_Ref_Count.f r = some (r / 1099511627776 % 8388608) := by
  unfold ref_Ref_Count.f
  rw [Bits.and23, Bits.u64_wrap]
  congr 1
  omega


end OfRefParts
open OfRefParts

theorem RefParts : boscagelaw01_RefParts.Pure := by
  intro r hr
  obtain ⟨r1, r2⟩ := rng hr
  have hp : boscageref01_Parts.f r = some (r % 1099511627776 - 1, r / 1099511627776 % 8388608) := by
    have key : ∀ p : Int, 0 ≤ p → p < 1099511627776 → p = r % 1099511627776 →
        (if (Int.tmod (wrap64 (Int.tdiv (wrap64 (r - p)) 1099511627776)) 8388608) < 0 then (some (wrap64 (p - 1), (wrap64 ((Int.tmod (wrap64 (Int.tdiv (wrap64 (r - p)) 1099511627776)) 8388608) + 8388608)) % 4294967296)) else (some (wrap64 (p - 1), (Int.tmod (wrap64 (Int.tdiv (wrap64 (r - p)) 1099511627776)) 8388608) % 4294967296))) = some (r % 1099511627776 - 1, r / 1099511627776 % 8388608) := by
      intro p h0 h1 h
      have a1 : wrap64 (r - p) = r - p := by unfold wrap64; omega
      have a2 : Int.tdiv (r - p) 1099511627776 = r / 1099511627776 := by
        have : r - p = 1099511627776 * (r / 1099511627776) := by omega
        rw [this, Int.mul_tdiv_cancel_left _ (by decide)]
      have a3 : wrap64 (r / 1099511627776) = r / 1099511627776 := by unfold wrap64; omega
      have a4 : wrap64 (p - 1) = r % 1099511627776 - 1 := by unfold wrap64; omega
      rw [a1, a2, a3, a4]
      have tm : Int.tmod (r / 1099511627776) 8388608 = r / 1099511627776 % 8388608 ∨ (Int.tmod (r / 1099511627776) 8388608 < 0 ∧ Int.tmod (r / 1099511627776) 8388608 = r / 1099511627776 % 8388608 - 8388608) := by
        by_cases h : 0 ≤ r / 1099511627776
        · exact Or.inl (Int.tmod_eq_emod_of_nonneg h)
        · rw [Int.tmod_eq_emod]
          split
          · left; omega
          · right; simp; omega
      rcases tm with h | ⟨hn, h⟩
      · rw [if_neg (by omega), h]
        congr 2
        omega
      · rw [if_pos hn, h]
        congr 2
        unfold wrap64
        omega
    have tm : Int.tmod r 1099511627776 = r % 1099511627776 ∨ (Int.tmod r 1099511627776 < 0 ∧ Int.tmod r 1099511627776 = r % 1099511627776 - 1099511627776) := by
      by_cases h : 0 ≤ r
      · exact Or.inl (Int.tmod_eq_emod_of_nonneg h)
      · rw [Int.tmod_eq_emod]
        split
        · left; omega
        · right; simp; omega
    unfold boscageref01_Parts.f
    rcases tm with h | ⟨hn, h⟩
    · rw [if_neg (by omega)]
      exact key _ (by omega) (by omega) (by omega)
    · rw [if_pos hn]
      have a0 : wrap64 (Int.tmod r 1099511627776 + 1099511627776) = r % 1099511627776 := by rw [h]; unfold wrap64; omega
      rw [a0]
      exact key _ (by omega) (by omega) (by omega)
  unfold boscagelaw01_RefParts.f
  rw [hp, awake, place_eq r r1 r2, count_eq]
  simp

end Go.Proofs.Ytaphiekhpnlilaa.Pure
