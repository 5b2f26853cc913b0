/- A division that rounds down. -/
import Derived.Test.YtjclncmpfdfkfaaSt
namespace Go.Proofs.Ytjclncmpfdfkfaa
open Go.RowKit Go.Great
theorem ediv_bounds (a b : Int) (hb : 0 < b) (ha : -4611686018427387904 ≤ a ∧ a ≤ 4611686018427387904) : -4611686018427387904 ≤ a / b ∧ a / b ≤ 4611686018427387904 := by
  refine ⟨(Int.le_ediv_iff_mul_le hb).2 (by omega), Int.le_of_lt_add_one (Int.ediv_lt_of_lt_mul hb (by omega))⟩
theorem tdiv_low (a b : Int) (hb : 0 < b) (h : a.tmod b < 0) : a.tdiv b - 1 = a / b := by
  have h1 := Int.mul_tdiv_add_tmod a b
  have h2 := Int.lt_tmod_of_pos a hb
  have := (Int.ediv_emod_unique (a := a) (r := a.tmod b + b) (q := a.tdiv b - 1) hb).2 ⟨by rw [Int.mul_sub]; omega, by omega, by omega⟩
  exact this.1.symm
theorem tdiv_high (a b : Int) (hb : 0 < b) (h : 0 ≤ a.tmod b) : a.tdiv b = a / b := by
  have h1 := Int.mul_tdiv_add_tmod a b
  have h2 := Int.tmod_lt_of_pos a hb
  have := (Int.ediv_emod_unique (a := a) (r := a.tmod b) (q := a.tdiv b) hb).2 ⟨by omega, by omega, by omega⟩
  exact this.1.symm
theorem wrap_fit (x : Int) (h : -9223372036854775808 ≤ x ∧ x < 9223372036854775808) : wrap64 x = x := by
  unfold wrap64
  omega
theorem wrap_id (x : Int) (h : -9223372036854775808 ≤ x ∧ x < 9223372036854775808) : IntKind.i64.wrap x = x := by
  rw [IntKind.wrap_i64]
  omega
theorem wrap_to (x : Int) (n : Nat) (e : x = (n : Int)) (h : n < 9223372036854775808) : IntKind.i64.wrap x = (n : Int) := by
  subst e
  exact wrap_id _ (by omega)
theorem floor_walk (w : World) (a b : Int) (hb : 0 < b) (hb2 : b < 4611686018427387904) (ha : -4611686018427387904 ≤ a ∧ a ≤ 4611686018427387904) : Calls Try.prog 50 #[.int .i64 a, .int .i64 b] w fun e w' => e = .returned (.int .i64 (a / b)) ∧ w' = w := by
  have bd := ediv_bounds a b hb ha
  go_enter Try.func50, Try.ntmps50
  go_wp2
  · rename_i h
    rw [tdiv_low a b hb (by omega), wrap_fit _ (by omega)]
    go_ret
    exact ⟨rfl, rfl⟩
  · rename_i h
    rw [tdiv_high a b hb (by omega)]
    go_ret
    exact ⟨rfl, rfl⟩
end Go.Proofs.Ytjclncmpfdfkfaa
