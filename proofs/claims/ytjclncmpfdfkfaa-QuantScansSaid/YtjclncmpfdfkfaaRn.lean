/- The reference's norm of a row. -/
import Derived.Test.YtjclncmpfdfkfaaRb
namespace Go.Proofs.Ytjclncmpfdfkfaa
open Go.RowKit Go.Great

def sq (i : Int) (k : Nat) : Int := bas i k * bas i k
theorem sq_le (i : Int) (k : Nat) : 0 ≤ sq i k ∧ sq i k ≤ 144 := by
  have h : -12 ≤ bas i k ∧ bas i k ≤ 12 := by
    unfold bas
    split
    · exact mt_le _ _
    · decide
  unfold sq
  generalize bas i k = b at *
  have c : b = -12 ∨ b = -11 ∨ b = -10 ∨ b = -9 ∨ b = -8 ∨ b = -7 ∨ b = -6 ∨ b = -5 ∨ b = -4 ∨ b = -3 ∨ b = -2 ∨ b = -1 ∨ b = 0 ∨ b = 1 ∨ b = 2 ∨ b = 3 ∨ b = 4 ∨ b = 5 ∨ b = 6 ∨ b = 7 ∨ b = 8 ∨ b = 9 ∨ b = 10 ∨ b = 11 ∨ b = 12 := by omega
  rcases c with h | h | h | h | h | h | h | h | h | h | h | h | h | h | h | h | h | h | h | h | h | h | h | h | h <;> subst h <;> decide
theorem sq_sum (i : Int) : dot (sq i) 8 = bnrm i := by
  by_cases h : 0 ≤ i ∧ i ≤ 7
  · obtain ⟨n, rfl⟩ := Int.eq_ofNat_of_zero_le h.1
    have c : n = 0 ∨ n = 1 ∨ n = 2 ∨ n = 3 ∨ n = 4 ∨ n = 5 ∨ n = 6 ∨ n = 7 := by omega
    rcases c with rfl | rfl | rfl | rfl | rfl | rfl | rfl | rfl <;> decide
  · have e : ∀ k, sq i k = 0 := by
      intro k
      unfold sq bas
      rw [if_neg (by omega)]; rfl
    have e2 : dot (sq i) 8 = dot (fun _ => 0) 8 := dot_congr 8 (fun k _ => e k)
    rw [e2]
    unfold bnrm
    rw [if_neg h]
    rfl
theorem refNorm_walk (w : World) (i : Int) : Calls Try.prog 42 #[.int .i64 i] w fun e w' => e = .returned (.int .i64 (bnrm i)) ∧ Below w.heap.size w w' := by
  have B0 : Below w.heap.size w w := Below.refl _ _
  go_enter Try.func42, Try.ntmps42
  go_wp2_with fail
  go_loopw [3, 4] (fun s t wr => ∃ n : Nat, n ≤ 8 ∧ s = .int .i64 (dot (sq i) n) ∧ t = .int .i64 n ∧ Below w.heap.size w wr) (fun _ t _ => 8 - (intOf t).toNat)
  case atStart => exact ⟨0, by omega, rfl, rfl, B0⟩
  case round =>
    clear B0
    obtain ⟨n, hn, rfl, rfl, hB⟩ := hrel
    have HB := Lib.hid hB; clear hB
    by_cases h8 : n < 8
    · have E : dot (sq i) (n + 1) = dot (sq i) n + bas i n * bas i n := rfl
      have b1 := sq_le i n
      have b2 := dot_bound (sq i) 144 n (fun k _ => ⟨by have := (sq_le i k).1; omega, (sq_le i k).2⟩)
      have b3 : (n : Int) * 144 ≤ 1152 := by omega
      unfold sq at b1
      have EE := Lib.hid E; clear E
      have w1' : IntKind.i64.wrap (bas i n * bas i n) = bas i n * bas i n := wrap_id _ (by omega)
      have w2' : IntKind.i64.wrap (dot (sq i) n + bas i n * bas i n) = dot (sq i) n + bas i n * bas i n := wrap_id _ (by omega)
      generalize dot (sq i) n = s at *
      have hb : bas i n = bas i n := rfl
      generalize hq : bas i n = q at *
      have HQ := Lib.hid hq; clear hq hb
      go_wp2_with (first | (go_at_call 46; refine (refBasis_walk _ _ _).mono ?_; rw [HQ.out]; rintro e1 w1 ⟨rfl, B1⟩; replace HB := Lib.hid (HB.out.trans (B1.mono HB.out.size)); clear B1))
      go_roundw
      case rel => exact ⟨n + 1, by omega, by rw [EE.out], by go_num, HB.out⟩
      case measure => simp [intOf] <;> omega
    · obtain rfl : n = 8 := by omega
      have e := sq_sum i
      rw [e]
      go_wp2
      go_ret
      exact ⟨rfl, HB.out⟩
end Go.Proofs.Ytjclncmpfdfkfaa
