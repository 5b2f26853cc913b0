/- Slices of whole numbers and of truth values that are read. -/
import Derived.Test.YtmimljaniliecaaObj
namespace Go.Proofs.Ytmimljaniliecaa
open Go.RowKit
def i64s (l : List Int) : List Value := l.map (Value.int .i64)
theorem i64s_length (l : List Int) : (i64s l).length = l.length := by simp [i64s]
theorem i64s_get (l : List Int) (j : Nat) (h : j < l.length) : (i64s l)[j * 1 + 0]? = some (.int .i64 (l.getD j 0)) := by
  rw [Nat.mul_one, Nat.add_zero]
  simp [i64s, List.getElem?_eq_getElem h]
theorem i64s_rng {l : List Int} (h : ∀ x ∈ l, -9223372036854775808 ≤ x ∧ x ≤ 9223372036854775807) (j : Nat) : -9223372036854775808 ≤ l.getD j 0 ∧ l.getD j 0 ≤ 9223372036854775807 := by
  rw [List.getD_eq_getElem?_getD]
  cases e : l[j]? with
  | none => simp
  | some x => simpa using h x (List.mem_of_getElem? e)
def bools (l : List Bool) : List Value := l.map Value.bool
theorem bools_length (l : List Bool) : (bools l).length = l.length := by simp [bools]
theorem bools_get (l : List Bool) (j : Nat) (h : j < l.length) : (bools l)[j * 1 + 0]? = some (.bool (l.getD j false)) := by
  rw [Nat.mul_one, Nat.add_zero]
  simp [bools, List.getElem?_eq_getElem h]
end Go.Proofs.Ytmimljaniliecaa
