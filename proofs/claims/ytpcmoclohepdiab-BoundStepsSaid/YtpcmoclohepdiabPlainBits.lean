/- Plain facts on wraps, bits and bounds: no program in sight. -/
import Derived.WalkKit
import Derived.OpenShut
import Derived.Laws.Bits64b
namespace Go.Proofs.Ytpcmoclohepdiab.Plain
open Go.RowKit
theorem wrap64_eq {n : Int} (h0 : -9223372036854775808 ≤ n) (h1 : n ≤ 9223372036854775807) : wrap64 n = n := by unfold wrap64; omega
theorem u64_eq {n : Int} (h0 : 0 ≤ n) (h1 : n ≤ 18446744073709551615) : IntKind.u64.wrap n = n := by
  simp only [IntKind.wrap, IntKind.bits, IntKind.signed]; simp; omega
theorem u64_mod (n : Int) : IntKind.u64.wrap n = n % 18446744073709551616 := by
  simp only [IntKind.wrap, IntKind.bits, IntKind.signed]; simp
theorem and_one {a : Int} (h0 : 0 ≤ a) (h1 : a ≤ 18446744073709551615) : bits .and .u64 a 1 = a % 2 := by
  have h := bits_and_u64_nat a.toNat 1 (by omega) (by omega)
  rw [Nat.and_one_is_mod, Int.toNat_of_nonneg h0] at h
  have h2 : ((a.toNat % 2 : Nat) : Int) = a % 2 := by omega
  exact h.trans h2
theorem nat_or_one (n : Nat) : n ||| 1 = 2 * (n / 2) + 1 := by
  apply Nat.eq_of_testBit_eq
  intro i
  rw [Nat.testBit_or]
  cases i with
  | zero => simp [Nat.testBit_zero]
  | succ i =>
    rw [Nat.testBit_succ, Nat.testBit_succ, Nat.testBit_succ]
    have h : (2 * (n / 2) + 1) / 2 = n / 2 := by omega
    rw [h]
    simp
theorem or_one {a : Int} (h0 : 0 ≤ a) (h1 : a ≤ 18446744073709551615) : bits .or .u64 a 1 = a + 1 - a % 2 := by
  have h := bits_or_u64_nat a.toNat 1 (by omega) (by omega)
  rw [nat_or_one, Int.toNat_of_nonneg h0] at h
  have h2 : ((2 * (a.toNat / 2) + 1 : Nat) : Int) = a + 1 - a % 2 := by omega
  exact h.trans h2
theorem or_zero {a : Int} (h0 : 0 ≤ a) (h1 : a ≤ 18446744073709551615) : bits .or .u64 a 0 = a := by
  have h := bits_or_u64_nat a.toNat 0 (by omega) (by omega)
  rw [Nat.or_zero, Int.toNat_of_nonneg h0] at h
  exact h
end Go.Proofs.Ytpcmoclohepdiab.Plain
