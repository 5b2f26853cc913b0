/- How two elements of a block compare by diagonals. -/
import Derived.Test.YtjclncmpfdfkfaaU
import Derived.WalkKit
import Derived.Lib.Walk
import Derived.Sort.Grow
namespace Go.Proofs.Ytjclncmpfdfkfaa
open Go.RowKit

def cmpI (x y : Int) : Int := if x < y then -1 else if x > y then 1 else 0
set_option maxHeartbeats 1000000 in
theorem isNaN_walk (x : Int) (w : World) : Calls Try.prog 60 #[.int .i64 x] w fun e w' => e = .returned (.bool false) ∧ w' = w := by
  go_enter Try.func60, Try.ntmps60
  go_wp2
  go_ret
  exact ⟨by simp, rfl⟩
set_option maxHeartbeats 1000000 in
theorem compare_walk (x y : Int) (w : World) : Calls Try.prog 57 #[.int .i64 x, .int .i64 y] w fun e w' => e = .returned (.int .i64 (cmpI x y)) ∧ w' = w := by
  go_enter Try.func57, Try.ntmps57
  go_wp2_with (go_at_call 60; refine (isNaN_walk _ _).mono ?_; rintro e w' ⟨rfl, rfl⟩)
  all_goals go_ret
  all_goals refine ⟨?_, rfl⟩
  all_goals first
    | (rw [show cmpI x y = -1 by unfold cmpI; rw [if_pos (by omega)]]; rfl)
    | (rw [show cmpI x y = 1 by unfold cmpI; rw [if_neg (by omega), if_pos (by omega)]]; rfl)
    | (rw [show cmpI x y = 0 by unfold cmpI; rw [if_neg (by omega), if_neg (by omega)]]; rfl)
def orV (a b : Int) : Int := if a = 0 then b else a
set_option maxHeartbeats 4000000 in
theorem or_walk (a b : Int) (g : Nat) (t : TypeId) (w : World) (hg : w.heap[g]? = some (.cells #[.int .i64 a, .int .i64 b] t (0, 0))) : Calls Try.prog 56 #[.slice (some ⟨g, 0, none⟩) 2 2] w fun e w' => e = .returned (.int .i64 (orV a b)) ∧ w' = w := by
  have c0 : w.cell? ⟨g, 0, none⟩ = some (.int .i64 a) := by rw [cell_of_row w g 0 _ t (0, 0) hg]; rfl
  have c1 : w.cell? ⟨g, 1, none⟩ = some (.int .i64 b) := by rw [cell_of_row w g 1 _ t (0, 0) hg]; rfl
  clear hg
  go_enter Try.func56, Try.ntmps56
  go_wp2
  refine wp_loop_rounds 3 ?_
  rw [rounds_succ]
  go_wp2
  · go_ret
    refine ⟨?_, rfl⟩
    rename_i h
    rw [show orV a b = a by unfold orV; rw [if_neg (by simpa using h)]]; rfl
  · rename_i h
    have ha : a = 0 := by simpa using h
    rw [rounds_succ]
    go_wp2
    · go_ret
      refine ⟨?_, rfl⟩
      rw [show orV a b = b by unfold orV; rw [if_pos ha]]; rfl
    · rename_i h2
      have hb : b = 0 := by simpa using h2
      rw [rounds_succ]
      go_wp2
      go_ret
      refine ⟨?_, rfl⟩
      rw [show orV a b = 0 by unfold orV; rw [if_pos ha, hb]]; rfl
/-- the comparison of zigzag -/
def zzc (a b : Int) : Int := if a / 8 + a % 8 ≠ b / 8 + b % 8 ∨ (a / 8 + a % 8) % 2 = 1 then orV (cmpI (a / 8 + a % 8) (b / 8 + b % 8)) (cmpI (a / 8) (b / 8)) else cmpI (b / 8) (a / 8)
set_option maxHeartbeats 4000000 in
theorem zzc_walk (a b : Int) (ha : 0 ≤ a ∧ a < 64) (hb : 0 ≤ b ∧ b < 64) (w : World) : Calls Try.prog 55 #[.int .i64 a, .int .i64 b] w fun e w' => e = .returned (.int .i64 (zzc a b)) ∧ ∃ q os, w' = Go.Sort.grow (w.drewN q) os := by
  go_enter Try.func55, Try.ntmps55
  go_wp2_with (first | (go_at_call 57; refine (compare_walk _ _ _).mono ?_; rintro e w' ⟨rfl, rfl⟩) | (go_at_call 56; refine (or_walk _ _ _ _ _ (heap_alloc_new _ _)).mono ?_; rintro e w'' ⟨rfl, rfl⟩))
  · rename_i h1 h2 _ _
    go_ret
    refine ⟨?_, 0, _, by rw [Go.Sort.alloc_eq_grow]; rfl⟩
    rw [show zzc a b = orV (cmpI (b / 8 + b % 8) (b / 8 + b % 8)) (cmpI (a / 8) (b / 8)) by unfold zzc; rw [h1, if_pos (.inr (by simpa using h2))]]
    rfl
  · rename_i h1 h2
    go_ret
    refine ⟨?_, 0, #[], by rw [Go.Sort.grow_empty]; rfl⟩
    rw [show zzc a b = cmpI (b / 8) (a / 8) by unfold zzc; rw [if_neg (fun h => by rcases h with h | h; exact h h1; rw [h1] at h; simp [h] at h2)]]
    rfl
  · rename_i h1 _ _
    go_ret
    refine ⟨?_, 0, _, by rw [Go.Sort.alloc_eq_grow]; rfl⟩
    rw [show zzc a b = orV (cmpI (a / 8 + a % 8) (b / 8 + b % 8)) (cmpI (a / 8) (b / 8)) by unfold zzc; rw [if_pos (.inl h1)]]
    rfl
end Go.Proofs.Ytjclncmpfdfkfaa
