/- The masks and joins that a reference is made of, as products and rests. For every integer. -/
import Derived.Laws.BitsLemmas
import Derived.IntWalk
namespace Go.Proofs.Ytaphiekhpnlilaa.Bits
open Go Go.RowKit

theorem and40 (x : Int) : bits .and .i64 x 1099511627775 = x % 1099511627776 := by
  show IntKind.i64.wrap ((BitVec.ofInt 64 x &&& BitVec.ofInt 64 1099511627775).toNat : Int) = _
  have h : (BitVec.ofInt 64 1099511627775).toNat = 2 ^ 40 - 1 := by decide
  rw [BitVec.toNat_and, h, Nat.and_two_pow_sub_one_eq_mod, BitVec.toNat_ofInt, IntKind.wrap_i64]
  omega

theorem and23 (x : Int) : bits .and .u32 x 8388607 = x % 8388608 := by
  show IntKind.u32.wrap ((BitVec.ofInt 32 x &&& BitVec.ofInt 32 8388607).toNat : Int) = _
  have h : (BitVec.ofInt 32 8388607).toNat = 2 ^ 23 - 1 := by decide
  rw [BitVec.toNat_and, h, Nat.and_two_pow_sub_one_eq_mod, BitVec.toNat_ofInt, IntKind.wrap_u32]
  omega

theorem wraps_i64 (n : Int) (h₀ : 0 ≤ n) (h₁ : n < 2 ^ 63) : IntKind.i64.wrap n = n := by rw [IntKind.wrap_i64]; omega

/-- A reference: a count and a place, joined. -/
theorem made (p c : Int) :
    Go.bits .or .i64 (wrap64 ((wrap64 (Go.bits .and .u32 c 8388607)) * 1099511627776)) (Go.bits .and .i64 (wrap64 (p + 1)) 1099511627775)
      = (c % 8388608) * 1099511627776 + (p + 1) % 1099511627776 := by
  rw [and23, and40]
  have e1 : wrap64 (c % 8388608) = c % 8388608 := by unfold wrap64; omega
  have e2 : wrap64 (c % 8388608 * 1099511627776) = c % 8388608 * 1099511627776 := by unfold wrap64; omega
  have e3 : wrap64 (p + 1) % 1099511627776 = (p + 1) % 1099511627776 := by unfold wrap64; omega
  rw [e1, e2, e3]
  exact bits_join .i64 63 (by decide) wraps_i64 40 _ _ (by omega) (by omega) (by omega) (by omega) (by omega) (by omega)

theorem u64_wrap (n : Int) : IntKind.u64.wrap n = n % 18446744073709551616 := by simp [IntKind.wrap, IntKind.bits, IntKind.signed]

end Go.Proofs.Ytaphiekhpnlilaa.Bits
