/- The small functions of the transform: an element of the matrix, a row's norm, a rounded division, a clamp. -/
import Derived.Test.YtjclncmpfdfkfaaSt
namespace Go.Proofs.Ytjclncmpfdfkfaa
open Go.RowKit Go.Great

/-- an element of the matrix -/
def mt (i k : Nat) : Int := matL.getD (8 * i + k) 0
/-- an element, 0 outside -/
def bas (i k : Int) : Int := if 0 ≤ i ∧ i ≤ 7 ∧ 0 ≤ k ∧ k ≤ 7 then mt i.toNat k.toNat else 0
def nrmL : List Int := [512, 578, 320, 578, 512, 578, 320, 578]
/-- a row's squared norm -/
def nrm (i : Nat) : Int := nrmL.getD i 0
def bnrm (i : Int) : Int := if 0 ≤ i ∧ i ≤ 7 then nrm i.toNat else 0
theorem mt_le : ∀ i k : Nat, -12 ≤ mt i k ∧ mt i k ≤ 12 := by
  have h : ∀ n : Nat, -12 ≤ matL.getD n 0 ∧ matL.getD n 0 ≤ 12 := by
    intro n
    by_cases hn : n < 64
    · have : ∀ n : Fin 64, -12 ≤ matL.getD n.val 0 ∧ matL.getD n.val 0 ≤ 12 := by decide
      exact this ⟨n, hn⟩
    · rw [List.getD_eq_getElem?_getD, List.getElem?_eq_none (by simp [matL]; omega)]; decide
  intro i k
  exact h _
theorem nrm_in : ∀ i : Nat, i < 8 → nrm i = 512 ∨ nrm i = 578 ∨ nrm i = 320 := by
  intro i hi
  have : ∀ n : Fin 8, nrm n.val = 512 ∨ nrm n.val = 578 ∨ nrm n.val = 320 := by decide
  exact this ⟨i, hi⟩

theorem inside_walk (w : World) (i : Int) : Calls Try.prog 52 #[.int .i64 i] w fun e w' => e = .returned (.bool (decide (0 ≤ i ∧ i ≤ 7))) ∧ w' = w := by
  go_enter Try.func52, Try.ntmps52
  by_cases h0 : 0 ≤ i
  · by_cases h1 : i < 8
    · have e : decide (0 ≤ i ∧ i ≤ 7) = true := by simp; omega
      rw [e]
      go_wp2
      go_ret; exact ⟨rfl, rfl⟩
    · have e : decide (0 ≤ i ∧ i ≤ 7) = false := by simp; omega
      rw [e]
      go_wp2
      go_ret; exact ⟨rfl, rfl⟩
  · have e : decide (0 ≤ i ∧ i ≤ 7) = false := by simp; omega
    rw [e]
    go_wp2
    go_ret; exact ⟨rfl, rfl⟩

theorem inside_t (w : World) (i : Int) (h : 0 ≤ i ∧ i ≤ 7) : Calls Try.prog 52 #[.int .i64 i] w fun e w' => e = .returned (.bool true) ∧ w' = w := by
  have := inside_walk w i
  rwa [show decide (0 ≤ i ∧ i ≤ 7) = true from by simp; omega] at this
theorem inside_f (w : World) (i : Int) (h : ¬ (0 ≤ i ∧ i ≤ 7)) : Calls Try.prog 52 #[.int .i64 i] w fun e w' => e = .returned (.bool false) ∧ w' = w := by
  have := inside_walk w i
  rwa [show decide (0 ≤ i ∧ i ≤ 7) = false from by simp; omega] at this

def rowOf (i : Nat) : List Int := (matL.drop (8 * i)).take 8
theorem row_of (w : World) (i : Nat) (h : i < 8) : (Instr.index 50 (.agg (iv matL)) (.int .i64 (i : Int))).run Try.prog w = .ok (.agg (iv (rowOf i))) w := by
  have c : i = 0 ∨ i = 1 ∨ i = 2 ∨ i = 3 ∨ i = 4 ∨ i = 5 ∨ i = 6 ∨ i = 7 := by omega
  rcases c with rfl | rfl | rfl | rfl | rfl | rfl | rfl | rfl <;> rfl
theorem elem_of (w : World) (i k : Nat) (h : i < 8) (hk : k < 8) : (Instr.index 49 (.agg (iv (rowOf i))) (.int .i64 (k : Int))).run Try.prog w = .ok (.int .i64 (mt i k)) w := by
  have e : mt i k = (rowOf i).getD k 0 := by
    unfold mt rowOf
    rw [List.getD_eq_getElem?_getD, List.getD_eq_getElem?_getD, List.getElem?_take, if_pos hk, List.getElem?_drop]
  rw [e]
  exact index_iv (rowOf i) (len := 8) (e := 3) rfl rfl rfl k hk (by unfold rowOf; rw [List.length_take, List.length_drop]; show k < min 8 (64 - 8 * i); omega)
theorem norm_of (w : World) (i : Nat) (h : i < 8) : (Instr.index 49 (.agg (iv nrmL)) (.int .i64 (i : Int))).run Try.prog w = .ok (.int .i64 (nrm i)) w :=
  index_iv nrmL (len := 8) (e := 3) rfl rfl rfl i h h

set_option maxHeartbeats 2000000 in
theorem basis_walk (w : World) (i k : Int) : Calls Try.prog 53 #[.int .i64 i, .int .i64 k] w fun e w' => e = .returned (.int .i64 (bas i k)) ∧ Below w.heap.size w w' := by
  go_enter Try.func53, Try.ntmps53
  by_cases hi : 0 ≤ i ∧ i ≤ 7
  · by_cases hk : 0 ≤ k ∧ k ≤ 7
    · obtain ⟨n, rfl⟩ := Int.eq_ofNat_of_zero_le hi.1
      obtain ⟨m, rfl⟩ := Int.eq_ofNat_of_zero_le hk.1
      have e : bas n m = mt n m := by unfold bas; rw [if_pos (by omega)]; rfl
      rw [e]
      have hn : n < 8 := by omega
      have hm : m < 8 := by omega
      have r := fun w' => row_of w' n hn
      have s := fun w' => elem_of w' n m hn hm
      go_wp2_with (first | (go_at_call 52; refine (inside_t _ _ hi).mono ?_; rintro e1 w1 ⟨rfl, rfl⟩) | (go_at_call 52; refine (inside_t _ _ hk).mono ?_; rintro e1 w1 ⟨rfl, rfl⟩) | (go_at_call 49; refine (matrix_walk _).mono ?_; rintro e1 w1 ⟨rfl, B1⟩))
      go_ret
      exact ⟨rfl, B1⟩
    · have e : bas i k = 0 := by unfold bas; rw [if_neg (by omega)]
      rw [e]
      go_wp2_with (first | (go_at_call 52; refine (inside_t _ _ hi).mono ?_; rintro e1 w1 ⟨rfl, rfl⟩) | (go_at_call 52; refine (inside_f _ _ hk).mono ?_; rintro e1 w1 ⟨rfl, rfl⟩))
      go_ret
      exact ⟨rfl, Below.refl _ _⟩
  · have e : bas i k = 0 := by unfold bas; rw [if_neg (by omega)]
    rw [e]
    go_wp2_with (go_at_call 52; refine (inside_f _ _ hi).mono ?_; rintro e1 w1 ⟨rfl, rfl⟩)
    go_ret
    exact ⟨rfl, Below.refl _ _⟩

theorem norm_walk (w : World) (i : Int) : Calls Try.prog 41 #[.int .i64 i] w fun e w' => e = .returned (.int .i64 (bnrm i)) ∧ w' = w := by
  go_enter Try.func41, Try.ntmps41
  by_cases hi : 0 ≤ i ∧ i ≤ 7
  · obtain ⟨n, rfl⟩ := Int.eq_ofNat_of_zero_le hi.1
    have e : bnrm n = nrm n := by unfold bnrm; rw [if_pos (by omega)]; rfl
    rw [e]
    have hn : n < 8 := by omega
    have r := fun w' => norm_of w' n hn
    go_wp2_with (first | (go_at_call 52; refine (inside_t _ _ hi).mono ?_; rintro e1 w1 ⟨rfl, rfl⟩) | (refine wpList_buildTo rfl 49 _ rfl _ rfl (iv nrmL) (by kernel_rfl) ?_))
    go_ret
    exact ⟨rfl, rfl⟩
  · have e : bnrm i = 0 := by unfold bnrm; rw [if_neg (by omega)]
    rw [e]
    go_wp2_with (go_at_call 52; refine (inside_f _ _ hi).mono ?_; rintro e1 w1 ⟨rfl, rfl⟩)
    go_ret
    exact ⟨rfl, rfl⟩

def fdiv (a b : Int) : Int := a / b
end Go.Proofs.Ytjclncmpfdfkfaa
