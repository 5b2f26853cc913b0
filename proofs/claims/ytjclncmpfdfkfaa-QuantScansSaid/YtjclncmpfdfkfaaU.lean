/- Unsigned whole numbers of 64 bits; the greatest common divisor. -/
import Derived.Test.YtjclncmpfdfkfaaGw
import Derived.Test.YtjclncmpfdfkfaaProg
namespace Go.Proofs.Ytjclncmpfdfkfaa
open Go.RowKit
theorem wrap_u64 {e : Int} (h : 0 ≤ e ∧ e ≤ 18446744073709551615) : IntKind.u64.wrap e = e := by
  simp only [IntKind.wrap, IntKind.bits, IntKind.signed]
  simp
  omega
theorem wrap_u64_neg {e : Int} (h : -9223372036854775808 ≤ e ∧ e < 0) : IntKind.u64.wrap e = e + 18446744073709551616 := by
  simp only [IntKind.wrap, IntKind.bits, IntKind.signed]
  simp
  omega
theorem wrap_u64_negneg {x : Int} (h : -9223372036854775808 ≤ x ∧ x < 0) : IntKind.u64.wrap (-(x + 18446744073709551616)) = -x := by
  simp only [IntKind.wrap, IntKind.bits, IntKind.signed]
  simp
  omega
section
variable {P : Program} {s : Sem Next} {w w' : World}
theorem u64_of {e : Int} (h : 0 ≤ e ∧ e ≤ 18446744073709551615) (hr : s.run P w = .ok (.value (.int .u64 (IntKind.u64.wrap e))) w') : s.run P w = .ok (.value (.int .u64 e)) w' := by
  rw [wrap_u64 h] at hr; exact hr
theorem bin_remU {t : TypeId} {x y : Nat} (hy : y ≠ 0) : (binOp .rem t (.int .u64 (x : Int)) (.int .u64 (y : Int))).run P w = .ok (.int .u64 ((x % y : Nat) : Int)) w := by
  have h : (y : Int) ≠ 0 := by omega
  rw [← rem_nat x y]
  simp [binOp, Op.intDiv, hy]
end
theorem gcd_step (x y : Nat) : Nat.gcd y (x % y) = Nat.gcd x y := by
  rw [Nat.gcd_comm y, ← Nat.gcd_rec, Nat.gcd_comm]
end Go.Proofs.Ytjclncmpfdfkfaa
