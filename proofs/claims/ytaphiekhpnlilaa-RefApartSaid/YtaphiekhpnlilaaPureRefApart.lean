/- Two references of places from 0 up to 2^40 - 2 are one just if place and count are: no conditions but the ones that the law itself asks. -/
import Derived.Test.YtaphiekhpnlilaaPRefApartx1
import Derived.Test.YtaphiekhpnlilaaBits
namespace Go.Proofs.Ytaphiekhpnlilaa.Pure
open Go.RowKit Go.Proofs.Ytaphiekhpnlilaa.PRefApart Go.Proofs.YtaphiekhpnlilaaW.PrintWords Go.Proofs.YtaphiekhpnlilaaW.PrintLast

set_option linter.unusedVariables false
namespace OfRefApart
theorem of_eq (p c : Int) : ref_Of.f p c = some ((c % 8388608) * 1099511627776 + (p + 1) % 1099511627776) := by
  unfold ref_Of.f
  rw [Bits.made]

theorem awake : boscagelaw01_Awake.f = some true := by
  unfold boscagelaw01_Awake.f
  rw [of_eq]
  rfl

theorem rng {a : Int} (h : (Lit.int .i64 a).wf = true) : -9223372036854775808 ≤ a ∧ a ≤ 9223372036854775807 := by
  simpa [Lit.wf, IntKind.min, IntKind.max, IntKind.bits, IntKind.signed] using h

theorem rng32 {a : Int} (h : (Lit.int .u32 a).wf = true) : 0 ≤ a ∧ a ≤ 4294967295 := by
  simpa [Lit.wf, IntKind.min, IntKind.max, IntKind.bits, IntKind.signed] using h


end OfRefApart
open OfRefApart

theorem RefApart : boscagelaw01_RefApart.Pure := by
  intro p q c d hp hq hc hd
  obtain ⟨p1, p2⟩ := rng hp
  obtain ⟨q1, q2⟩ := rng hq
  obtain ⟨c1, c2⟩ := rng32 hc
  obtain ⟨d1, d2⟩ := rng32 hd
  have hj : ∀ b, b = true ∨ (0 ≤ p ∧ p ≤ 1099511627774 ∧ 0 ≤ q ∧ q ≤ 1099511627774) → boscagelaw01_RefApart.j0 1 p q c d b = some true := by
    intro b hb
    by_cases h : b = true
    · simp only [boscagelaw01_RefApart.j0]
      rw [if_pos h]
    · have g := hb.resolve_left h
      obtain ⟨g1, g2, g3, g4⟩ := g
      simp only [boscagelaw01_RefApart.j0]
      rw [if_neg h]
      rw [of_eq, of_eq]
      simp only [Option.bind_some]
      have ec : Int.tmod c 8388608 = c % 8388608 := Int.tmod_eq_emod_of_nonneg c1
      have ed : Int.tmod d 8388608 = d % 8388608 := Int.tmod_eq_emod_of_nonneg d1
      have k1 : (p + 1) % 1099511627776 = p + 1 := by omega
      have k2 : (q + 1) % 1099511627776 = q + 1 := by omega
      rw [ec, ed, k1, k2]
      split
      · next e =>
        subst e
        congr 1
        rw [beq_iff_eq, Bool.eq_iff_iff, beq_iff_eq, beq_iff_eq]
        omega
      · next e =>
        congr 1
        rw [beq_iff_eq, beq_eq_false_iff_ne]
        omega
  refine ⟨1, ?_⟩
  unfold boscagelaw01_RefApart.f
  rw [awake]
  simp only [Option.bind_some, if_true]
  split
  · exact hj _ (Or.inl rfl)
  split
  · exact hj _ (Or.inl rfl)
  split
  · exact hj _ (Or.inl rfl)
  · refine hj _ ?_
    by_cases h : q > 1099511627774
    · left; simpa using h
    · right; omega

end Go.Proofs.Ytaphiekhpnlilaa.Pure
