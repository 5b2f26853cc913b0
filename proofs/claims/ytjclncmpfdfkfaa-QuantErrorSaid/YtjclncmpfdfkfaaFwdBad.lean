/- Forward refuses a block out of range. -/
import Derived.Test.YtjclncmpfdfkfaaFst
namespace Go.Proofs.Ytjclncmpfdfkfaa
open Go.RowKit Go.Great

theorem lim_all {m : Int} {xs : List Int} (h : ∀ i, i < 64 → -m ≤ xs.getD i 0 ∧ xs.getD i 0 ≤ m) : Lim m xs := h

set_option maxHeartbeats 2000000 in
set_option maxRecDepth 100000 in
theorem forward_bad (w : World) (xs : List Int) (hl : xs.length = 64) (hr : ¬ Lim 255 xs) : Calls Try.prog 28 #[.agg (iv xs)] w fun e w' => e = .returned (.tuple #[.agg (iv zeros), .int .i64 2]) ∧ Below w.heap.size w w' := by
  have LL := Lib.hid hl
  have RR := Lib.hid hr
  have H1 : Has ((w.alloc (.cells (iv xs) 30 (0, 0))).alloc (.cells (iv zeros) 30 (0, 0))) w.heap.size 30 xs := (Has.new w _ xs).alloc _
  have H2 : Has ((w.alloc (.cells (iv xs) 30 (0, 0))).alloc (.cells (iv zeros) 30 (0, 0))) (w.heap.size + 1) 30 zeros := Has.newAt _ _ _ _ (by simp)
  have H3 : Below w.heap.size w ((w.alloc (.cells (iv xs) 30 (0, 0))).alloc (.cells (iv zeros) 30 (0, 0))) := ((Below.refl _ _).alloc (Nat.le_refl _) _).alloc (by simp) _
  have G1 := Lib.hid H1
  have G2 := Lib.hid H2
  have G3 := Lib.hid H3
  clear H1 H2 H3 hr hl
  go_enter Try.func28, Try.ntmps28
  go_wp2_with (refine wpList_load_row rfl 30 _ rfl w.heap.size rfl 30 (iv xs) (0, 0) _ G1.out Try.underlying30 rfl (info64 _ LL.out) ?_)
  go_loopw [16] (fun t wr => ∃ n : Nat, n ≤ 64 ∧ t = .int .i64 n ∧ wr = (w.alloc (.cells (iv xs) 30 (0, 0))).alloc (.cells (iv zeros) 30 (0, 0)) ∧ ∀ i, i < n → -255 ≤ xs.getD i 0 ∧ xs.getD i 0 ≤ 255) (fun t _ => 64 - (intOf t).toNat)
  case atStart => exact ⟨0, by omega, rfl, rfl, fun i hi => absurd hi (Nat.not_lt_zero i)⟩
  case round =>
    obtain ⟨n, hn, rfl, rfl, hall⟩ := hrel
    by_cases h64 : n < 64
    · have hix := fun w' => index_iv (P := Try.prog) (w := w') (t := 30) (e := 3) (len := 64) xs rfl rfl rfl n h64 (by rw [LL.out]; exact h64)
      by_cases hb : -255 ≤ xs.getD n 0 ∧ xs.getD n 0 ≤ 255
      · have hnx : ∀ i, i < n + 1 → -255 ≤ xs.getD i 0 ∧ xs.getD i 0 ≤ 255 := by
          intro i hi
          by_cases e : i = n
          · subst e; exact hb
          · exact hall i (by omega)
        have HN := Lib.hid hnx; clear hnx hall
        generalize xs.getD n 0 = x at hix hb
        go_wp2
        go_roundw
        case rel => exact ⟨n + 1, by omega, by go_num, by trivial, HN.out⟩
        case measure => simp [intOf] <;> omega
      · clear hall
        generalize xs.getD n 0 = x at *
        by_cases hlo : x < -255
        · go_wp2_with (first | (refine wpList_buildTo rfl 30 _ rfl _ rfl (iv zeros) (by kernel_rfl) ?_) | (refine wpList_store_row rfl 30 _ _ rfl (w.heap.size + 1) (iv zeros) rfl rfl 30 _ G2.out (info64 _ (tab_length _ _)) (by rw [iv_size, zeros, tab_length]) (iv_one _) ?_))
          exact bodyPost_ret (v := .tuple #[.agg (iv zeros), .int .i64 2]) (results_two rfl _ _ (w.heap.size + 1) 30 (iv zeros) (0, 0) _ rfl (G2.out.setRow _) Try.underlying30 rfl (info64 _ (tab_length _ _)) _ rfl) rfl ⟨rfl, Below_setRow G3.out (by omega) _⟩
        · have hhi : 255 < x := by omega
          go_wp2_with (first | (refine wpList_buildTo rfl 30 _ rfl _ rfl (iv zeros) (by kernel_rfl) ?_) | (refine wpList_store_row rfl 30 _ _ rfl (w.heap.size + 1) (iv zeros) rfl rfl 30 _ G2.out (info64 _ (tab_length _ _)) (by rw [iv_size, zeros, tab_length]) (iv_one _) ?_))
          exact bodyPost_ret (v := .tuple #[.agg (iv zeros), .int .i64 2]) (results_two rfl _ _ (w.heap.size + 1) 30 (iv zeros) (0, 0) _ rfl (G2.out.setRow _) Try.underlying30 rfl (info64 _ (tab_length _ _)) _ rfl) rfl ⟨rfl, Below_setRow G3.out (by omega) _⟩
    · obtain rfl : n = 64 := by omega
      exact absurd hall RR.out
end Go.Proofs.Ytjclncmpfdfkfaa
