/- Nought is of no place, whatever its count: so is place 2^40 - 1: no conditions. -/
import Derived.Test.YtaphiekhpnlilaaPRefNonex1
import Derived.Test.YtaphiekhpnlilaaBits
namespace Go.Proofs.Ytaphiekhpnlilaa.Pure
open Go.RowKit Go.Proofs.Ytaphiekhpnlilaa.PRefNone Go.Proofs.YtaphiekhpnlilaaW.PrintWords Go.Proofs.YtaphiekhpnlilaaW.PrintLast

set_option linter.unusedVariables false
namespace OfRefNone
theorem of_eq (p c : Int) : ref_Of.f p c = some ((c % 8388608) * 1099511627776 + (p + 1) % 1099511627776) := by
  unfold ref_Of.f
  rw [Bits.made]

theorem awake : boscagelaw01_Awake.f = some true := by
  unfold boscagelaw01_Awake.f
  rw [of_eq]
  rfl

theorem rng {a : Int} (h : (Lit.int .i64 a).wf = true) : -9223372036854775808 ≤ a ∧ a ≤ 9223372036854775807 := by
  simpa [Lit.wf, IntKind.min, IntKind.max, IntKind.bits, IntKind.signed] using h

theorem rng32 {a : Int} (h : (Lit.int .u32 a).wf = true) : 0 ≤ a ∧ a ≤ 4294967295 := by
  simpa [Lit.wf, IntKind.min, IntKind.max, IntKind.bits, IntKind.signed] using h

theorem place_eq (r : Int) (h0 : -9223372036854775808 ≤ r) (h1 : r ≤ 9223372036854775807) : ref_Ref_Place.f r = some (r % 1099511627776 - 1) := by
  unfold ref_Ref_Place.f
  rw [Bits.and40]
  congr 1
  unfold wrap64
  omega

theorem count_eq (r : Int) : ref_Ref_Count.f r = some (r / 1099511627776 % 8388608) := by
  unfold ref_Ref_Count.f
  rw [Bits.and23, Bits.u64_wrap]
  congr 1
  omega


end OfRefNone
open OfRefNone

theorem RefNone : boscagelaw01_RefNone.Pure := by
  intro c hc
  obtain ⟨c1, c2⟩ := rng32 hc
  have e1 : ref_Of.f (-1) c = some (c % 8388608 * 1099511627776) := by rw [of_eq]; congr 1; omega
  have e2 : ref_Of.f 1099511627775 c = some (c % 8388608 * 1099511627776) := by rw [of_eq]; congr 1; omega
  have e3 : ref_Of.f (-1) 0 = some 0 := by rw [of_eq]; rfl
  have e4 : ref_Ref_Place.f (c % 8388608 * 1099511627776) = some (-1) := by rw [place_eq _ (by omega) (by omega)]; congr 1; omega
  have e5 : ref_Ref_Count.f (c % 8388608 * 1099511627776) = some (c % 8388608) := by rw [count_eq]; congr 1; omega
  have e6 : ref_Ref_Place.f 0 = some (-1) := by rw [place_eq _ (by omega) (by omega)]; rfl
  have ec : Int.tmod c 8388608 = c % 8388608 := Int.tmod_eq_emod_of_nonneg c1
  unfold boscagelaw01_RefNone.f
  rw [e1, e2, awake, e3, ec]
  simp only [Option.bind_some, if_true]
  rw [e4, e5, e6]
  simp

end Go.Proofs.Ytaphiekhpnlilaa.Pure
