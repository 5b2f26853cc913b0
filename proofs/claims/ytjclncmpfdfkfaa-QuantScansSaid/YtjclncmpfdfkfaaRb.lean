/- The reference's elements and norms of the matrix. -/
import Derived.Test.YtjclncmpfdfkfaaFst
namespace Go.Proofs.Ytjclncmpfdfkfaa
open Go.RowKit Go.Great

theorem wpList_world {P : Program} {ops : Array Oper} {rest : List Oper} {a : Act} {w w' : World} {Q : Exit → Act → World → Prop} (e : w = w') (h : wpList P ops Q rest a w') : wpList P ops Q rest a w := e ▸ h

set_option maxHeartbeats 2000000 in
set_option maxRecDepth 100000 in
theorem refBasis_in (w : World) (i k : Nat) (hi : i < 8) (hk : k < 8) : Calls Try.prog 46 #[.int .i64 i, .int .i64 k] w fun e w' => e = .returned (.int .i64 (mt i k)) ∧ Below w.heap.size w w' := by
  have S0 : Has ((w.alloc (.cells (iv (tab 64 (fun _ => 0))) 50 (0, 0))).setRow w.heap.size (iv matL)) w.heap.size 50 matL := (Has.new w _ _).setRow _
  have B0 : Below w.heap.size w ((w.alloc (.cells (iv (tab 64 (fun _ => 0))) 50 (0, 0))).setRow w.heap.size (iv matL)) := Below_setRow ((Below.refl _ _).alloc (Nat.le_refl _) _) (Nat.le_refl _) _
  have c2 := mat_at _ _ _ S0 i k hi hk
  have BB := Lib.hid B0; clear B0
  have SS := Lib.hid S0; clear S0
  have CC := Lib.hid c2; clear c2
  go_enter Try.func46, Try.ntmps46
  go_wp2_with (first
        | (refine wpList_buildTo rfl 49 _ rfl (some 20) rfl (iv [8, 8, 8, 8, 8, 8, 8, 8]) (by kernel_rfl) ?_)
        | (refine wpList_buildTo rfl 49 _ rfl (some 21) rfl (iv [12, 10, 6, 3, -3, -6, -10, -12]) (by kernel_rfl) ?_)
        | (refine wpList_buildTo rfl 49 _ rfl (some 22) rfl (iv [8, 4, -4, -8, -8, -4, 4, 8]) (by kernel_rfl) ?_)
        | (refine wpList_buildTo rfl 49 _ rfl (some 23) rfl (iv [10, -3, -12, -6, 6, 12, 3, -10]) (by kernel_rfl) ?_)
        | (refine wpList_buildTo rfl 49 _ rfl (some 24) rfl (iv [8, -8, -8, 8, 8, -8, -8, 8]) (by kernel_rfl) ?_)
        | (refine wpList_buildTo rfl 49 _ rfl (some 25) rfl (iv [6, -12, 3, 10, -10, -3, 12, -6]) (by kernel_rfl) ?_)
        | (refine wpList_buildTo rfl 49 _ rfl (some 26) rfl (iv [4, -8, 8, -4, -4, 8, -8, 4]) (by kernel_rfl) ?_)
        | (refine wpList_buildTo rfl 49 _ rfl (some 27) rfl (iv [3, -6, 10, -12, 12, -10, 6, -3]) (by kernel_rfl) ?_)
        | (refine wpList_buildTo rfl 50 _ rfl (some 28) rfl (iv matL) (by kernel_rfl) ?_)
        | (refine wpList_store_row rfl 50 _ _ rfl w.heap.size (iv matL) rfl rfl 50 _ (Has.new w 50 (tab 64 (fun _ => 0))) (by kernel_rfl) (by kernel_rfl) (iv_one _) ?_; refine wpList_world (w' := (w.alloc (.cells (iv (tab 64 (fun _ => 0))) 50 (0, 0))).setRow w.heap.size (iv matL)) (by kernel_rfl) ?_; have c2 := CC.out; clear CC; generalize (w.alloc (.cells (iv (tab 64 (fun _ => 0))) 50 (0, 0))).setRow w.heap.size (iv matL) = w2 at *))
  go_ret
  exact ⟨rfl, BB.out⟩

theorem refBasis_out (w : World) (i k : Int) (h : ¬ (0 ≤ i ∧ i ≤ 7 ∧ 0 ≤ k ∧ k ≤ 7)) : Calls Try.prog 46 #[.int .i64 i, .int .i64 k] w fun e w' => e = .returned (.int .i64 0) ∧ w' = w := by
  go_enter Try.func46, Try.ntmps46
  by_cases h1 : i < 0
  · go_wp2
    go_ret
    exact ⟨rfl, rfl⟩
  · by_cases h2 : 7 < i
    · go_wp2
      go_ret
      exact ⟨rfl, rfl⟩
    · by_cases h3 : k < 0
      · go_wp2
        go_ret
        exact ⟨rfl, rfl⟩
      · have h4 : 7 < k := by omega
        go_wp2
        go_ret
        exact ⟨rfl, rfl⟩

theorem refBasis_walk (w : World) (i k : Int) : Calls Try.prog 46 #[.int .i64 i, .int .i64 k] w fun e w' => e = .returned (.int .i64 (bas i k)) ∧ Below w.heap.size w w' := by
  by_cases h : 0 ≤ i ∧ i ≤ 7 ∧ 0 ≤ k ∧ k ≤ 7
  · obtain ⟨n, rfl⟩ := Int.eq_ofNat_of_zero_le h.1
    obtain ⟨m, rfl⟩ := Int.eq_ofNat_of_zero_le h.2.2.1
    have e : bas n m = mt n m := by unfold bas; rw [if_pos h]; rfl
    rw [e]
    exact refBasis_in w n m (by omega) (by omega)
  · have e : bas i k = 0 := by unfold bas; rw [if_neg h]
    rw [e]
    refine (refBasis_out w i k h).mono ?_
    rintro e1 w1 ⟨rfl, rfl⟩
    exact ⟨rfl, Below.refl _ _⟩
end Go.Proofs.Ytjclncmpfdfkfaa
