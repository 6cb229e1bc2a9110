/- Of any place and any count the reference is the one of the document: no conditions. -/
import Derived.Test.YtaphiekhpnlilaaPRefMakesx1
import Derived.Test.YtaphiekhpnlilaaBits
namespace Go.Proofs.Ytaphiekhpnlilaa.Pure
open Go.RowKit Go.Proofs.Ytaphiekhpnlilaa.PRefMakes Go.Proofs.YtaphiekhpnlilaaW.PrintWords Go.Proofs.YtaphiekhpnlilaaW.PrintLast

set_option linter.unusedVariables false
namespace OfRefMakes
theorem of_eq (p c : Int) : ref_Of.f p c = some ((c % 8388608) * 1099511627776 + (p + 1) % 1099511627776) := by
  unfold ref_Of.f
  rw [Bits.made]

theorem awake : boscagelaw01_Awake.f = some true := by
  unfold boscagelaw01_Awake.f
  rw [of_eq]
  rfl

theorem rng {a : Int} (h : (Lit.int .i64 a).wf = true) : -9223372036854775808 ≤ a ∧ a ≤ 9223372036854775807 := by
  simpa [Lit.wf, IntKind.min, IntKind.max, IntKind.bits, IntKind.signed] using h

theorem rng32 {a : Int} (h : (Lit.int .u32 a).wf = true) : 0 ≤ a ∧ a ≤ 4294967295 := by
  simpa [Lit.wf, IntKind.min, IntKind.max, IntKind.bits, IntKind.signed] using h


end OfRefMakes
open OfRefMakes

theorem RefMakes : boscagelaw01_RefMakes.Pure := by
  intro p c hp hc
  obtain ⟨p1, p2⟩ := rng hp
  obtain ⟨c1, c2⟩ := rng32 hc
  unfold boscagelaw01_RefMakes.f boscageref01_Of.f
  rw [awake, of_eq]
  simp only [Option.bind_some, if_true]
  have ec : Int.tmod c 8388608 = c % 8388608 := Int.tmod_eq_emod_of_nonneg c1
  have e1 : wrap64 (c % 8388608) = c % 8388608 := by unfold wrap64; omega
  have e2 : wrap64 (c % 8388608 * 1099511627776) = c % 8388608 * 1099511627776 := by unfold wrap64; omega
  rw [ec, e1, e2]
  have key : ∀ x : Int, 0 ≤ x → x < 1099511627776 → x % 1099511627776 = p % 1099511627776 →
      wrap64 (c % 8388608 * 1099511627776 + Int.tmod (wrap64 (x + 1)) 1099511627776) = c % 8388608 * 1099511627776 + (p + 1) % 1099511627776 := by
    intro x h0 h1 hx
    have a1 : wrap64 (x + 1) = x + 1 := by unfold wrap64; omega
    have a2 : Int.tmod (x + 1) 1099511627776 = (x + 1) % 1099511627776 := Int.tmod_eq_emod_of_nonneg (by omega)
    have a3 : (x + 1) % 1099511627776 = (p + 1) % 1099511627776 := by omega
    rw [a1, a2, a3]
    unfold wrap64
    omega
  have tm : Int.tmod p 1099511627776 = p % 1099511627776 ∨ (Int.tmod p 1099511627776 < 0 ∧ Int.tmod p 1099511627776 = p % 1099511627776 - 1099511627776) := by
    by_cases h : 0 ≤ p
    · exact Or.inl (Int.tmod_eq_emod_of_nonneg h)
    · rw [Int.tmod_eq_emod]
      split
      · left; omega
      · right; simp; omega
  rcases tm with h | ⟨hn, h⟩
  · rw [if_neg (by omega)]
    simp only [Option.bind_some]
    rw [h, key _ (by omega) (by omega) (by omega)]
    simp
  · rw [if_pos hn]
    simp only [Option.bind_some]
    have a0 : wrap64 (Int.tmod p 1099511627776 + 1099511627776) = p % 1099511627776 := by rw [h]; unfold wrap64; omega
    rw [a0, key _ (by omega) (by omega) (by omega)]
    simp

end Go.Proofs.Ytaphiekhpnlilaa.Pure
