/- A reference tells the place, and the count, that it was made of, of places from 0 up to 2^40 - 2: no conditions but the ones that the law itself asks. -/
import Derived.Test.YtaphiekhpnlilaaPRefBackx1
import Derived.Test.YtaphiekhpnlilaaBits
namespace Go.Proofs.Ytaphiekhpnlilaa.Pure
open Go.RowKit Go.Proofs.Ytaphiekhpnlilaa.PRefBack Go.Proofs.YtaphiekhpnlilaaW.PrintWords Go.Proofs.YtaphiekhpnlilaaW.PrintLast

set_option linter.unusedVariables false
namespace OfRefBack
theorem of_eq (p c : Int) : ref_Of.f p c = some ((c % 8388608) * 1099511627776 + (p + 1) % 1099511627776) := by
  unfold ref_Of.f
  rw [Bits.made]

theorem awake : boscagelaw01_Awake.f = some true := by
  unfold boscagelaw01_Awake.f
  rw [of_eq]
  rfl

theorem rng {a : Int} (h : (Lit.int .i64 a).wf = true) : -9223372036854775808 ≤ a ∧ a ≤ 9223372036854775807 := by
  simpa [Lit.wf, IntKind.min, IntKind.max, IntKind.bits, IntKind.signed] using h

theorem rng32 {a : Int} (h : (Lit.int .u32 a).wf = true) : 0 ≤ a ∧ a ≤ 4294967295 := by
  simpa [Lit.wf, IntKind.min, IntKind.max, IntKind.bits, IntKind.signed] using h

theorem place_eq (r : Int) (h0 : -9223372036854775808 ≤ r) (h1 : r ≤ 9223372036854775807) : ref_Ref_Place.f r = some (r % 1099511627776 - 1) := by
  unfold ref_Ref_Place.f
  rw [Bits.and40]
  congr 1
  unfold wrap64
  omega

theorem count_eq (r : Int) : ref_Ref_Count.f r = some (r / 1099511627776 % 8388608) := by
  unfold ref_Ref_Count.f
  rw [Bits.and23, Bits.u64_wrap]
  congr 1
  omega


end OfRefBack
open OfRefBack

theorem RefBack : boscagelaw01_RefBack.Pure := by
  intro p c hp hc
  obtain ⟨p1, p2⟩ := rng hp
  obtain ⟨c1, c2⟩ := rng32 hc
  have hj : ∀ b, b = true ∨ (0 ≤ p ∧ p ≤ 1099511627774) → boscagelaw01_RefBack.j0 1 p c b = some true := by
    intro b hb
    by_cases h : b = true
    · simp only [boscagelaw01_RefBack.j0]
      rw [if_pos h]
    · obtain ⟨g1, g2⟩ := hb.resolve_left h
      simp only [boscagelaw01_RefBack.j0]
      rw [if_neg h, of_eq]
      simp only [Option.bind_some]
      have ec : Int.tmod c 8388608 = c % 8388608 := Int.tmod_eq_emod_of_nonneg c1
      have k1 : (p + 1) % 1099511627776 = p + 1 := by omega
      rw [k1, if_pos (by omega), place_eq _ (by omega) (by omega)]
      simp only [Option.bind_some]
      rw [if_pos (by omega), count_eq]
      simp only [Option.bind_some]
      congr 1
      rw [beq_iff_eq, ec]
      omega
  refine ⟨1, ?_⟩
  unfold boscagelaw01_RefBack.f
  rw [awake]
  simp only [Option.bind_some, if_true]
  split
  · exact hj _ (Or.inl rfl)
  · refine hj _ ?_
    by_cases h : p > 1099511627774
    · left; simpa using h
    · right; omega

end Go.Proofs.Ytaphiekhpnlilaa.Pure
