/- References stand in the order of their counts, those of one count in that of their places: no conditions but the ones that the law itself asks. -/
import Derived.Test.YtaphiekhpnlilaaPRefOrderx1
import Derived.Test.YtaphiekhpnlilaaBits
namespace Go.Proofs.Ytaphiekhpnlilaa.Pure
open Go.RowKit Go.Proofs.Ytaphiekhpnlilaa.PRefOrder Go.Proofs.YtaphiekhpnlilaaW.PrintWords Go.Proofs.YtaphiekhpnlilaaW.PrintLast

set_option linter.unusedVariables false
namespace OfRefOrder
theorem of_eq (p c : Int) : ref_Of.f p c = some ((c % 8388608) * 1099511627776 + (p + 1) % 1099511627776) := by
  unfold ref_Of.f
  rw [Bits.made]

theorem awake : boscagelaw01_Awake.f = some true := by
  unfold boscagelaw01_Awake.f
  rw [of_eq]
  rfl

theorem rng {a : Int} (h : (Lit.int .i64 a).wf = true) : -9223372036854775808 ≤ a ∧ a ≤ 9223372036854775807 := by
  simpa [Lit.wf, IntKind.min, IntKind.max, IntKind.bits, IntKind.signed] using h

theorem rng32 {a : Int} (h : (Lit.int .u32 a).wf = true) : 0 ≤ a ∧ a ≤ 4294967295 := by
  simpa [Lit.wf, IntKind.min, IntKind.max, IntKind.bits, IntKind.signed] using h


end OfRefOrder
open OfRefOrder

theorem RefOrder : boscagelaw01_RefOrder.Pure := by
  intro p q c d hp hq hc hd
  obtain ⟨p1, p2⟩ := rng hp
  obtain ⟨q1, q2⟩ := rng hq
  obtain ⟨c1, c2⟩ := rng32 hc
  obtain ⟨d1, d2⟩ := rng32 hd
  have hj : ∀ b, b = true ∨ (0 ≤ p ∧ p ≤ 1099511627774 ∧ 0 ≤ q ∧ q ≤ 1099511627774) → boscagelaw01_RefOrder.j0 1 p q c d b = some true := by
    intro b hb
    by_cases h : b = true
    · simp only [boscagelaw01_RefOrder.j0]
      rw [if_pos h]
    · have g := hb.resolve_left h
      obtain ⟨g1, g2, g3, g4⟩ := g
      simp only [boscagelaw01_RefOrder.j0]
      rw [if_neg h]
      have ec : Int.tmod c 8388608 = c % 8388608 := Int.tmod_eq_emod_of_nonneg c1
      have ed : Int.tmod d 8388608 = d % 8388608 := Int.tmod_eq_emod_of_nonneg d1
      have k1 : (p + 1) % 1099511627776 = p + 1 := by omega
      have k2 : (q + 1) % 1099511627776 = q + 1 := by omega
      rw [ec, ed, of_eq, of_eq]
      simp only [Option.bind_some]
      rw [k1, k2]
      have m1 : c % 8388608 % 8388608 = c % 8388608 := by omega
      have m2 : d % 8388608 % 8388608 = d % 8388608 := by omega
      rw [m1, m2]
      split
      · congr 1
        rw [beq_iff_eq, decide_eq_true_eq]
        omega
      split
      · congr 1
        rw [beq_iff_eq, Bool.eq_iff_iff, decide_eq_true_eq, decide_eq_true_eq]
        omega
      · congr 1
        rw [beq_iff_eq, decide_eq_false_iff_not]
        omega
  refine ⟨1, ?_⟩
  unfold boscagelaw01_RefOrder.f
  rw [awake]
  simp only [Option.bind_some, if_true]
  split
  · exact hj _ (Or.inl rfl)
  split
  · exact hj _ (Or.inl rfl)
  split
  · exact hj _ (Or.inl rfl)
  · refine hj _ ?_
    by_cases h : q > 1099511627774
    · left; simpa using h
    · right; omega

end Go.Proofs.Ytaphiekhpnlilaa.Pure
