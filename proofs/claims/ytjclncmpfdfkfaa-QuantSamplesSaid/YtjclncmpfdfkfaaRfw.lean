/- The reference's Forward is walked for blocks of samples. -/
import Derived.Test.YtjclncmpfdfkfaaGw
import Derived.Test.YtjclncmpfdfkfaaFst
import Derived.Test.YtjclncmpfdfkfaaRb
namespace Go.Proofs.Ytjclncmpfdfkfaa
open Go.RowKit

theorem fw_zero {R : Nat → Int} : tab 64 (part2 R (8 * 0) 0) = zeros := by rw [Nat.mul_zero, part2_zero]; rfl
theorem fw_zero2 {R : Nat → Int} : tab 64 (part2 R (8 * 0) 0) = zeros := by rw [Nat.mul_zero, part2_zero]; rfl
theorem fw_step1 (xs : List Int) (k j l : Nat) (hj : j < 8) : (tab 64 (part2 (R1 xs) (8 * k + j) (dot (t1 xs (8 * k + j)) l))).set (8 * k + j) (dot (t1 xs (8 * k + j)) l + mt j l * xs.getD (8 * k + l) 0) = tab 64 (part2 (R1 xs) (8 * k + j) (dot (t1 xs (8 * k + j)) (l + 1))) := by
  rw [part2_set]
  have ht : t1 xs (8 * k + j) l = mt j l * xs.getD (8 * k + l) 0 := by
    unfold t1
    rw [show (8 * k + j) % 8 = j by omega, show (8 * k + j) / 8 = k by omega]
  rw [← ht]; rfl
theorem fw_step2 (xs : List Int) (k j l : Nat) (hj : j < 8) : (tab 64 (part2 (Y1 xs) (8 * k + j) (dot (t2 xs (8 * k + j)) l))).set (8 * k + j) (dot (t2 xs (8 * k + j)) l + mt k l * R1 xs (8 * l + j)) = tab 64 (part2 (Y1 xs) (8 * k + j) (dot (t2 xs (8 * k + j)) (l + 1))) := by
  rw [part2_set]
  have ht : t2 xs (8 * k + j) l = mt k l * R1 xs (8 * l + j) := by
    unfold t2
    rw [show (8 * k + j) % 8 = j by omega, show (8 * k + j) / 8 = k by omega]
  rw [← ht]; rfl
theorem fw_b1 {xs : List Int} (h : Lim 255 xs) (k j l : Nat) (hk : k < 8) (hj : j < 8) (hl : l < 8) : -3060 ≤ mt j l * xs.getD (8 * k + l) 0 ∧ mt j l * xs.getD (8 * k + l) 0 ≤ 3060 := by
  have := t1_le h (8 * k + j) l (by omega) hl
  unfold t1 at this
  rw [show (8 * k + j) % 8 = j by omega, show (8 * k + j) / 8 = k by omega] at this
  omega
theorem fw_b2 {xs : List Int} (h : Lim 255 xs) (k j l : Nat) (hk : k < 8) (hj : j < 8) (hl : l < 8) : -293760 ≤ mt k l * R1 xs (8 * l + j) ∧ mt k l * R1 xs (8 * l + j) ≤ 293760 := by
  have := t2_le h (8 * k + j) l (by omega) hl
  unfold t2 at this
  rw [show (8 * k + j) % 8 = j by omega, show (8 * k + j) / 8 = k by omega] at this
  omega

set_option maxHeartbeats 4000000 in
set_option maxRecDepth 100000 in
theorem refForward_good (w : World) (xs : List Int) (hl : xs.length = 64) (hr : Lim 255 xs) : Calls Try.prog 22 #[.agg (iv xs)] w fun e w' => e = .returned (.tuple #[.agg (iv (fwd xs)), .int .i64 0]) ∧ Below w.heap.size w w' := by
  refine calls_of_wp Try.func22 rfl ?_
  refine wp_frame (a' := ⟨#[.agg (iv xs), undef, undef, undef, undef, undef, undef, undef, undef, undef, undef, undef, undef, undef, undef, undef, undef, undef, undef, undef, undef, undef, undef, undef, undef, undef, undef, undef, undef, undef, undef, undef, undef, undef, undef, undef, undef, undef, undef, undef, undef, undef, undef, undef, undef, undef, undef, undef, undef, undef, undef, undef, undef, undef, undef, undef, undef, undef, undef, undef, undef, undef, undef, undef, undef, undef, undef, undef, undef, undef, undef, undef, undef, undef, undef, undef, undef, undef, undef, undef, undef, undef, undef, undef, undef, undef, undef, undef, undef], []⟩) (by kernel_rfl) ?_
  have M0 : Mem NoS w w [] := Mem.start _ _
  refine wp_seq_k (fun K1 hK1 => ?_)
  refine wl_region ?_
  refine st_alloc M0 (.cells (iv xs) 30 (0, 0)) (by kernel_rfl) (by kernel_rfl) ?_
  intro g2 W3 M4
  refine st_alloc M4 (.cells (iv zeros) 30 (0, 0)) (by kernel_rfl) (by kernel_rfl) ?_
  intro g5 W6 M7
  refine st_val (.int .i64 0) (by kernel_rfl) (by kernel_rfl) ?_
  refine wl_nil ?_
  refine hK1 _ _ ?_
  try clear hK1 K1
  refine wp_seq_k (fun K8 hK8 => ?_)
  refine wp_seq_k (fun K9 hK9 => ?_)
  refine wl_region ?_
  refine st_val (.int .i64 0) (by kernel_rfl) (by kernel_rfl) ?_
  refine wl_nil ?_
  refine hK9 _ _ ?_
  try clear hK9 K9
  refine wp_block ?_
  refine wp_loop_ghost (fun gn a' w' => ∃ (n : Nat) (u10 : Nat → Value), ((n ≤ 64) ∧ Mem NoS w w' [(g5, .cells (iv zeros) 30 (0, 0)), (g2, .cells (iv xs) 30 (0, 0))]) ∧ gn = 64 - n ∧ a' = ⟨#[.agg (iv xs), .pointer (some ⟨g2, 0, none⟩), .pointer (some ⟨g5, 0, none⟩), (u10 3), .int .i64 (n : Int), undef, undef, undef, undef, undef, undef, undef, undef, (u10 13), (u10 14), (u10 15), (u10 16), (u10 17), (u10 18), (u10 19), (u10 20), (u10 21), (u10 22), (u10 23), (u10 24), (u10 25), (u10 26), (u10 27), undef, undef, undef, undef, undef, undef, undef, undef, undef, undef, undef, undef, undef, undef, undef, undef, undef, undef, undef, undef, undef, undef, undef, undef, undef, undef, undef, undef, undef, undef, undef, undef, undef, undef, undef, undef, undef, undef, undef, undef, undef, undef, undef, undef, undef, undef, undef, undef, undef, undef, undef, undef, undef, undef, undef, undef, undef, undef, undef, undef, undef], []⟩) _ ⟨0, (fun zz => Array.getD #[.agg (iv xs), .pointer (some ⟨g2, 0, none⟩), .pointer (some ⟨g5, 0, none⟩), .int .i64 0, .int .i64 0, undef, undef, undef, undef, undef, undef, undef, undef, undef, undef, undef, undef, undef, undef, undef, undef, undef, undef, undef, undef, undef, undef, undef, undef, undef, undef, undef, undef, undef, undef, undef, undef, undef, undef, undef, undef, undef, undef, undef, undef, undef, undef, undef, undef, undef, undef, undef, undef, undef, undef, undef, undef, undef, undef, undef, undef, undef, undef, undef, undef, undef, undef, undef, undef, undef, undef, undef, undef, undef, undef, undef, undef, undef, undef, undef, undef, undef, undef, undef, undef, undef, undef, undef, undef] zz undef), ⟨by omega, M7⟩, rfl, (by kernel_rfl)⟩ ?_
  rintro gn _ W11 ⟨n, u10, ⟨rn, M12⟩, rfl, rfl⟩
  refine wp_seq_k (fun K13 hK13 => ?_)
  refine wp_seq_k (fun K14 hK14 => ?_)
  refine wl_region ?_
  refine st_val (.int .i64 (n : Int)) (by kernel_rfl) (by kernel_rfl) ?_
  rcases Decidable.em (((n : Int) : Int) < 64) with c14 | c14
  ·
    have hk := hr n (by omega)
    refine st_val (.bool true) (by kernel_rfl) (bool_of (dec_t c14) (by kernel_rfl)) ?_
    refine wl_nil ?_
    refine hK14 _ _ ?_
    try clear hK14 K14
    refine wp_cond_true (by kernel_rfl) ?_
    refine wp_skip ?_
    refine hK13 _ _ ?_
    try clear hK13 K13
    refine wp_seq_k (fun K15 hK15 => ?_)
    refine wp_block ?_
    refine wp_seq_k (fun K16 hK16 => ?_)
    refine wl_region ?_
    refine st_val (.int .i64 (n : Int)) (by kernel_rfl) (by kernel_rfl) ?_
    refine st_val (.pointer (some ⟨g2, n, none⟩)) (by kernel_rfl) (run_indexAddr 30 (.tmp 1) (.tmp 17) rfl ⟨g2, 0, none⟩ .i64 n (by kernel_rfl) (by kernel_rfl) Try.underlying30 1 (by kernel_rfl) (by omega) ⟨g2, n, none⟩ (addr_at0 _ _)) ?_
    refine st_val (.int .i64 (xs.getD n 0)) (by kernel_rfl) (run_load_cell 3 (.tmp 18) rfl ⟨g2, n, none⟩ (by kernel_rfl) _ (M12.cell 1 rfl n _ (iv_get xs n (by rw [hl]; omega))) (by kernel_rfl)) ?_
    refine st_val (.bool false) (by kernel_rfl) (bool_of (dec_f (show ¬ ((xs.getD n 0 : Int) < -255) from by omega)) (by kernel_rfl)) ?_
    refine st_val (.bool false) (by kernel_rfl) (by kernel_rfl) ?_
    refine st_val (.int .i64 (n : Int)) (by kernel_rfl) (by kernel_rfl) ?_
    refine st_val (.pointer (some ⟨g2, n, none⟩)) (by kernel_rfl) (run_indexAddr 30 (.tmp 1) (.tmp 22) rfl ⟨g2, 0, none⟩ .i64 n (by kernel_rfl) (by kernel_rfl) Try.underlying30 1 (by kernel_rfl) (by omega) ⟨g2, n, none⟩ (addr_at0 _ _)) ?_
    refine st_val (.int .i64 (xs.getD n 0)) (by kernel_rfl) (run_load_cell 3 (.tmp 23) rfl ⟨g2, n, none⟩ (by kernel_rfl) _ (M12.cell 1 rfl n _ (iv_get xs n (by rw [hl]; omega))) (by kernel_rfl)) ?_
    refine st_val (.bool false) (by kernel_rfl) (bool_of (dec_f (show ¬ ((xs.getD n 0 : Int) > 255) from by omega)) (by kernel_rfl)) ?_
    refine st_val (.bool false) (by kernel_rfl) (by kernel_rfl) ?_
    refine wl_nil ?_
    refine hK16 _ _ ?_
    try clear hK16 K16
    refine wp_cond_false (by kernel_rfl) ?_
    refine wp_skip ?_
    refine blk_normal ?_
    refine hK15 _ _ ?_
    try clear hK15 K15
    refine wl_region ?_
    refine st_val (.int .i64 (n : Int)) (by kernel_rfl) (by kernel_rfl) ?_
    refine st_val (.int .i64 ((n : Int) + 1)) (by kernel_rfl) (i64_of (by omega) (by kernel_rfl)) ?_
    refine st_val (.int .i64 ((n : Int) + 1)) (by kernel_rfl) (by kernel_rfl) ?_
    refine wl_nil ?_
    refine th_normal ?_
    exact ⟨_, by omega, (n + 1), (fun zz => Array.getD #[.agg (iv xs), .pointer (some ⟨g2, 0, none⟩), .pointer (some ⟨g5, 0, none⟩), (u10 3), .int .i64 ((n : Int) + 1), undef, undef, undef, undef, undef, undef, undef, undef, .int .i64 (n : Int), .bool true, .int .i64 (n : Int), .int .i64 ((n : Int) + 1), .int .i64 (n : Int), .pointer (some ⟨g2, n, none⟩), .int .i64 (xs.getD n 0), .bool false, .bool false, .int .i64 (n : Int), .pointer (some ⟨g2, n, none⟩), .int .i64 (xs.getD n 0), .bool false, .bool false, (u10 27), undef, undef, undef, undef, undef, undef, undef, undef, undef, undef, undef, undef, undef, undef, undef, undef, undef, undef, undef, undef, undef, undef, undef, undef, undef, undef, undef, undef, undef, undef, undef, undef, undef, undef, undef, undef, undef, undef, undef, undef, undef, undef, undef, undef, undef, undef, undef, undef, undef, undef, undef, undef, undef, undef, undef, undef, undef, undef, undef, undef, undef] zz undef), ⟨by omega, M12⟩, rfl, (by kernel_rfl)⟩
  ·
    refine st_val (.bool false) (by kernel_rfl) (bool_of (dec_f c14) (by kernel_rfl)) ?_
    refine wl_nil ?_
    refine hK14 _ _ ?_
    try clear hK14 K14
    refine wp_cond_false (by kernel_rfl) ?_
    refine wp_exit ?_
    refine th_exit ?_
    refine th_exit ?_
    refine blk_exit ?_
    refine hK8 _ _ ?_
    try clear hK8 K8
    refine wp_seq_k (fun K17 hK17 => ?_)
    refine wl_region ?_
    refine st_alloc M12 (.cells (iv zeros) 30 (0, 0)) (by kernel_rfl) (by kernel_rfl) ?_
    intro g18 W19 M20
    refine st_alloc M20 (.cells (iv zeros) 30 (0, 0)) (by kernel_rfl) (by kernel_rfl) ?_
    intro g21 W22 M23
    refine wl_nil ?_
    refine hK17 _ _ ?_
    try clear hK17 K17
    refine wp_seq_k (fun K24 hK24 => ?_)
    refine wp_seq_k (fun K25 hK25 => ?_)
    refine wl_region ?_
    refine st_val (.int .i64 0) (by kernel_rfl) (by kernel_rfl) ?_
    refine wl_nil ?_
    refine hK25 _ _ ?_
    try clear hK25 K25
    refine wp_block ?_
    refine wp_loop_ghost (fun gn a' w' => ∃ (k : Nat) (u26 : Nat → Value), ((k ≤ 8) ∧ Mem NoS w w' [(g21, .cells (iv zeros) 30 (0, 0)), (g18, .cells (iv (tab 64 (part2 (R1 xs) (8 * k) 0))) 30 (0, 0)), (g5, .cells (iv zeros) 30 (0, 0)), (g2, .cells (iv xs) 30 (0, 0))]) ∧ gn = 8 - k ∧ a' = ⟨#[.agg (iv xs), .pointer (some ⟨g2, 0, none⟩), .pointer (some ⟨g5, 0, none⟩), (u10 3), .int .i64 (n : Int), .pointer (some ⟨g18, 0, none⟩), .pointer (some ⟨g21, 0, none⟩), .int .i64 (k : Int), (u26 8), (u26 9), undef, undef, undef, .int .i64 (n : Int), .bool false, (u10 15), (u10 16), (u10 17), (u10 18), (u10 19), (u10 20), (u10 21), (u10 22), (u10 23), (u10 24), (u10 25), (u10 26), (u10 27), (u26 28), (u26 29), (u26 30), (u26 31), (u26 32), (u26 33), (u26 34), (u26 35), (u26 36), (u26 37), (u26 38), (u26 39), (u26 40), (u26 41), (u26 42), (u26 43), (u26 44), (u26 45), (u26 46), (u26 47), (u26 48), (u26 49), (u26 50), (u26 51), (u26 52), (u26 53), (u26 54), (u26 55), (u26 56), (u26 57), undef, undef, undef, undef, undef, undef, undef, undef, undef, undef, undef, undef, undef, undef, undef, undef, undef, undef, undef, undef, undef, undef, undef, undef, undef, undef, undef, undef, undef, undef, undef], []⟩) _ ⟨0, (fun zz => Array.getD #[.agg (iv xs), .pointer (some ⟨g2, 0, none⟩), .pointer (some ⟨g5, 0, none⟩), (u10 3), .int .i64 (n : Int), .pointer (some ⟨g18, 0, none⟩), .pointer (some ⟨g21, 0, none⟩), .int .i64 0, undef, undef, undef, undef, undef, .int .i64 (n : Int), .bool false, (u10 15), (u10 16), (u10 17), (u10 18), (u10 19), (u10 20), (u10 21), (u10 22), (u10 23), (u10 24), (u10 25), (u10 26), (u10 27), undef, undef, undef, undef, undef, undef, undef, undef, undef, undef, undef, undef, undef, undef, undef, undef, undef, undef, undef, undef, undef, undef, undef, undef, undef, undef, undef, undef, undef, undef, undef, undef, undef, undef, undef, undef, undef, undef, undef, undef, undef, undef, undef, undef, undef, undef, undef, undef, undef, undef, undef, undef, undef, undef, undef, undef, undef, undef, undef, undef, undef] zz undef), ⟨by omega, (by rw [fw_zero]; exact M23)⟩, rfl, (by kernel_rfl)⟩ ?_
    rintro gn _ W27 ⟨k, u26, ⟨rk, M28⟩, rfl, rfl⟩
    refine wp_seq_k (fun K29 hK29 => ?_)
    refine wp_seq_k (fun K30 hK30 => ?_)
    refine wl_region ?_
    refine st_val (.int .i64 (k : Int)) (by kernel_rfl) (by kernel_rfl) ?_
    rcases Decidable.em (((k : Int) : Int) < 8) with c29 | c29
    ·
      refine st_val (.bool true) (by kernel_rfl) (bool_of (dec_t c29) (by kernel_rfl)) ?_
      refine wl_nil ?_
      refine hK30 _ _ ?_
      try clear hK30 K30
      refine wp_cond_true (by kernel_rfl) ?_
      refine wp_skip ?_
      refine hK29 _ _ ?_
      try clear hK29 K29
      refine wp_seq_k (fun K31 hK31 => ?_)
      refine wp_block ?_
      refine wp_seq_k (fun K32 hK32 => ?_)
      refine wl_region ?_
      refine st_val (.int .i64 0) (by kernel_rfl) (by kernel_rfl) ?_
      refine wl_nil ?_
      refine hK32 _ _ ?_
      try clear hK32 K32
      refine wp_block ?_
      refine wp_loop_ghost (fun gn a' w' => ∃ (j : Nat) (u33 : Nat → Value), ((j ≤ 8) ∧ Mem NoS w w' [(g21, .cells (iv zeros) 30 (0, 0)), (g18, .cells (iv (tab 64 (part2 (R1 xs) (8 * k + j) 0))) 30 (0, 0)), (g5, .cells (iv zeros) 30 (0, 0)), (g2, .cells (iv xs) 30 (0, 0))]) ∧ gn = 8 - j ∧ a' = ⟨#[.agg (iv xs), .pointer (some ⟨g2, 0, none⟩), .pointer (some ⟨g5, 0, none⟩), (u10 3), .int .i64 (n : Int), .pointer (some ⟨g18, 0, none⟩), .pointer (some ⟨g21, 0, none⟩), .int .i64 (k : Int), .int .i64 (j : Int), (u33 9), undef, undef, undef, .int .i64 (n : Int), .bool false, (u10 15), (u10 16), (u10 17), (u10 18), (u10 19), (u10 20), (u10 21), (u10 22), (u10 23), (u10 24), (u10 25), (u10 26), (u10 27), .int .i64 (k : Int), .bool true, (u26 30), (u26 31), (u33 32), (u33 33), (u33 34), (u33 35), (u33 36), (u33 37), (u33 38), (u33 39), (u33 40), (u33 41), (u33 42), (u33 43), (u33 44), (u33 45), (u33 46), (u33 47), (u33 48), (u33 49), (u33 50), (u33 51), (u33 52), (u33 53), (u33 54), (u33 55), (u33 56), (u33 57), undef, undef, undef, undef, undef, undef, undef, undef, undef, undef, undef, undef, undef, undef, undef, undef, undef, undef, undef, undef, undef, undef, undef, undef, undef, undef, undef, undef, undef, undef, undef], []⟩) _ ⟨0, (fun zz => Array.getD #[.agg (iv xs), .pointer (some ⟨g2, 0, none⟩), .pointer (some ⟨g5, 0, none⟩), (u10 3), .int .i64 (n : Int), .pointer (some ⟨g18, 0, none⟩), .pointer (some ⟨g21, 0, none⟩), .int .i64 (k : Int), .int .i64 0, (u26 9), undef, undef, undef, .int .i64 (n : Int), .bool false, (u10 15), (u10 16), (u10 17), (u10 18), (u10 19), (u10 20), (u10 21), (u10 22), (u10 23), (u10 24), (u10 25), (u10 26), (u10 27), .int .i64 (k : Int), .bool true, (u26 30), (u26 31), (u26 32), (u26 33), (u26 34), (u26 35), (u26 36), (u26 37), (u26 38), (u26 39), (u26 40), (u26 41), (u26 42), (u26 43), (u26 44), (u26 45), (u26 46), (u26 47), (u26 48), (u26 49), (u26 50), (u26 51), (u26 52), (u26 53), (u26 54), (u26 55), (u26 56), (u26 57), undef, undef, undef, undef, undef, undef, undef, undef, undef, undef, undef, undef, undef, undef, undef, undef, undef, undef, undef, undef, undef, undef, undef, undef, undef, undef, undef, undef, undef, undef, undef] zz undef), ⟨by omega, M28⟩, rfl, (by kernel_rfl)⟩ ?_
      rintro gn _ W34 ⟨j, u33, ⟨rj, M35⟩, rfl, rfl⟩
      refine wp_seq_k (fun K36 hK36 => ?_)
      refine wp_seq_k (fun K37 hK37 => ?_)
      refine wl_region ?_
      refine st_val (.int .i64 (j : Int)) (by kernel_rfl) (by kernel_rfl) ?_
      rcases Decidable.em (((j : Int) : Int) < 8) with c33 | c33
      ·
        refine st_val (.bool true) (by kernel_rfl) (bool_of (dec_t c33) (by kernel_rfl)) ?_
        refine wl_nil ?_
        refine hK37 _ _ ?_
        try clear hK37 K37
        refine wp_cond_true (by kernel_rfl) ?_
        refine wp_skip ?_
        refine hK36 _ _ ?_
        try clear hK36 K36
        refine wp_seq_k (fun K38 hK38 => ?_)
        refine wp_block ?_
        refine wp_seq_k (fun K39 hK39 => ?_)
        refine wl_region ?_
        refine st_val (.int .i64 0) (by kernel_rfl) (by kernel_rfl) ?_
        refine wl_nil ?_
        refine hK39 _ _ ?_
        try clear hK39 K39
        refine wp_block ?_
        refine wp_loop_ghost (fun gn a' w' => ∃ (l : Nat) (u40 : Nat → Value), ((l ≤ 8) ∧ Mem NoS w w' [(g21, .cells (iv zeros) 30 (0, 0)), (g18, .cells (iv (tab 64 (part2 (R1 xs) (8 * k + j) (dot (t1 xs (8 * k + j)) l)))) 30 (0, 0)), (g5, .cells (iv zeros) 30 (0, 0)), (g2, .cells (iv xs) 30 (0, 0))]) ∧ gn = 8 - l ∧ a' = ⟨#[.agg (iv xs), .pointer (some ⟨g2, 0, none⟩), .pointer (some ⟨g5, 0, none⟩), (u10 3), .int .i64 (n : Int), .pointer (some ⟨g18, 0, none⟩), .pointer (some ⟨g21, 0, none⟩), .int .i64 (k : Int), .int .i64 (j : Int), .int .i64 (l : Int), undef, undef, undef, .int .i64 (n : Int), .bool false, (u10 15), (u10 16), (u10 17), (u10 18), (u10 19), (u10 20), (u10 21), (u10 22), (u10 23), (u10 24), (u10 25), (u10 26), (u10 27), .int .i64 (k : Int), .bool true, (u26 30), (u26 31), .int .i64 (j : Int), .bool true, (u33 34), (u33 35), (u40 36), (u40 37), (u40 38), (u40 39), (u40 40), (u40 41), (u40 42), (u40 43), (u40 44), (u40 45), (u40 46), (u40 47), (u40 48), (u40 49), (u40 50), (u40 51), (u40 52), (u40 53), (u40 54), (u40 55), (u40 56), (u40 57), undef, undef, undef, undef, undef, undef, undef, undef, undef, undef, undef, undef, undef, undef, undef, undef, undef, undef, undef, undef, undef, undef, undef, undef, undef, undef, undef, undef, undef, undef, undef], []⟩) _ ⟨0, (fun zz => Array.getD #[.agg (iv xs), .pointer (some ⟨g2, 0, none⟩), .pointer (some ⟨g5, 0, none⟩), (u10 3), .int .i64 (n : Int), .pointer (some ⟨g18, 0, none⟩), .pointer (some ⟨g21, 0, none⟩), .int .i64 (k : Int), .int .i64 (j : Int), .int .i64 0, undef, undef, undef, .int .i64 (n : Int), .bool false, (u10 15), (u10 16), (u10 17), (u10 18), (u10 19), (u10 20), (u10 21), (u10 22), (u10 23), (u10 24), (u10 25), (u10 26), (u10 27), .int .i64 (k : Int), .bool true, (u26 30), (u26 31), .int .i64 (j : Int), .bool true, (u33 34), (u33 35), (u33 36), (u33 37), (u33 38), (u33 39), (u33 40), (u33 41), (u33 42), (u33 43), (u33 44), (u33 45), (u33 46), (u33 47), (u33 48), (u33 49), (u33 50), (u33 51), (u33 52), (u33 53), (u33 54), (u33 55), (u33 56), (u33 57), undef, undef, undef, undef, undef, undef, undef, undef, undef, undef, undef, undef, undef, undef, undef, undef, undef, undef, undef, undef, undef, undef, undef, undef, undef, undef, undef, undef, undef, undef, undef] zz undef), ⟨by omega, M35⟩, rfl, (by kernel_rfl)⟩ ?_
        rintro gn _ W41 ⟨l, u40, ⟨rl, M42⟩, rfl, rfl⟩
        refine wp_seq_k (fun K43 hK43 => ?_)
        refine wp_seq_k (fun K44 hK44 => ?_)
        refine wl_region ?_
        refine st_val (.int .i64 (l : Int)) (by kernel_rfl) (by kernel_rfl) ?_
        rcases Decidable.em (((l : Int) : Int) < 8) with c37 | c37
        ·
          have b1 := fw_b1 hr k j l (by omega) (by omega) (by omega)
          have b2 := R1_le hr (8 * k + j) (by omega) l (by omega)
          refine st_val (.bool true) (by kernel_rfl) (bool_of (dec_t c37) (by kernel_rfl)) ?_
          refine wl_nil ?_
          refine hK44 _ _ ?_
          try clear hK44 K44
          refine wp_cond_true (by kernel_rfl) ?_
          refine wp_skip ?_
          refine hK43 _ _ ?_
          try clear hK43 K43
          refine wp_seq_k (fun K45 hK45 => ?_)
          refine wp_block ?_
          refine wl_seq 18 (fun w' => Mem NoS w w' [(g21, .cells (iv zeros) 30 (0, 0)), (g18, .cells (iv (tab 64 (part2 (R1 xs) (8 * k + j) (dot (t1 xs (8 * k + j)) l)))) 30 (0, 0)), (g5, .cells (iv zeros) 30 (0, 0)), (g2, .cells (iv xs) 30 (0, 0))]) (by decide) (by kernel_rfl) (by kernel_rfl) M42.drew ?_
          refine seq_run (v := .int .i64 (k : Int)) (by decide) (by kernel_rfl) (fun w' M' => (by kernel_rfl)) ?_
          refine seq_run (v := .int .i64 (8 * (k : Int))) (by decide) (by kernel_rfl) (fun w' M' => (i64_of (by omega) (by kernel_rfl))) ?_
          refine seq_run (v := .int .i64 (j : Int)) (by decide) (by kernel_rfl) (fun w' M' => (by kernel_rfl)) ?_
          refine seq_run (v := .int .i64 ((8 * (k : Int)) + (j : Int))) (by decide) (by kernel_rfl) (fun w' M' => (i64_of (by omega) (by kernel_rfl))) ?_
          refine seq_run (v := .pointer (some ⟨g18, 8 * k + j, none⟩)) (by decide) (by kernel_rfl) (fun w' M' => (run_indexAddr 30 (.tmp 5) (.tmp 43) rfl ⟨g18, 0, none⟩ .i64 (8 * k + j) (by kernel_rfl) (by kernel_rfl) Try.underlying30 1 (by kernel_rfl) (by omega) ⟨g18, 8 * k + j, none⟩ (addr_at0 _ _))) ?_
          refine seq_run (v := .int .i64 (dot (t1 xs (8 * k + j)) l)) (by decide) (by kernel_rfl) (fun w' M' => (run_load_cell 3 (.tmp 44) rfl ⟨g18, 8 * k + j, none⟩ (by kernel_rfl) _ (M'.cell 1 rfl (8 * k + j) _ ((iv_get _ _ (by rw [tab_length]; omega)).trans (by rw [part2_at _ _ _ (by omega)]))) (by kernel_rfl))) ?_
          refine seq_run (v := .int .i64 (j : Int)) (by decide) (by kernel_rfl) (fun w' M' => (by kernel_rfl)) ?_
          refine seq_run (v := .int .i64 (l : Int)) (by decide) (by kernel_rfl) (fun w' M' => (by kernel_rfl)) ?_
          refine seq_call (v := .int .i64 (mt j l)) (f := 46) (args := #[.int .i64 (j : Int), .int .i64 (l : Int)]) (by decide) (by kernel_rfl) (fun w' M' => (run_value_call 46 #[(Operand.tmp 46), (Operand.tmp 47)] _ rfl Try.func46 (by kernel_rfl) (by kernel_rfl) _ (by kernel_rfl))) (fun w' M' => callB_mem M' (refBasis_in w' j l (by omega) (by omega))) ?_
          refine seq_run (v := .int .i64 (k : Int)) (by decide) (by kernel_rfl) (fun w' M' => (by kernel_rfl)) ?_
          refine seq_run (v := .int .i64 (8 * (k : Int))) (by decide) (by kernel_rfl) (fun w' M' => (i64_of (by omega) (by kernel_rfl))) ?_
          refine seq_run (v := .int .i64 (l : Int)) (by decide) (by kernel_rfl) (fun w' M' => (by kernel_rfl)) ?_
          refine seq_run (v := .int .i64 ((8 * (k : Int)) + (l : Int))) (by decide) (by kernel_rfl) (fun w' M' => (i64_of (by omega) (by kernel_rfl))) ?_
          refine seq_run (v := .pointer (some ⟨g2, 8 * k + l, none⟩)) (by decide) (by kernel_rfl) (fun w' M' => (run_indexAddr 30 (.tmp 1) (.tmp 52) rfl ⟨g2, 0, none⟩ .i64 (8 * k + l) (by kernel_rfl) (by kernel_rfl) Try.underlying30 1 (by kernel_rfl) (by omega) ⟨g2, 8 * k + l, none⟩ (addr_at0 _ _))) ?_
          refine seq_run (v := .int .i64 (xs.getD (8 * k + l) 0)) (by decide) (by kernel_rfl) (fun w' M' => (run_load_cell 3 (.tmp 53) rfl ⟨g2, 8 * k + l, none⟩ (by kernel_rfl) _ (M'.cell 3 rfl (8 * k + l) _ (iv_get xs (8 * k + l) (by rw [hl]; omega))) (by kernel_rfl))) ?_
          refine seq_run (v := .int .i64 ((mt j l) * (xs.getD (8 * k + l) 0))) (by decide) (by kernel_rfl) (fun w' M' => (i64_of (by omega) (by kernel_rfl))) ?_
          refine seq_run (v := .int .i64 ((dot (t1 xs (8 * k + j)) l) + ((mt j l) * (xs.getD (8 * k + l) 0)))) (by decide) (by kernel_rfl) (fun w' M' => (i64_of (by omega) (by kernel_rfl))) ?_
          refine seq_run (v := .pointer (some ⟨g18, 8 * k + j, none⟩)) (by decide) (by kernel_rfl) (fun w' M' => (run_indexAddr 30 (.tmp 5) (.tmp 43) rfl ⟨g18, 0, none⟩ .i64 (8 * k + j) (by kernel_rfl) (by kernel_rfl) Try.underlying30 1 (by kernel_rfl) (by omega) ⟨g18, 8 * k + j, none⟩ (addr_at0 _ _))) ?_
          refine seq_end (by decide) ?_
          intro W46 M47
          refine st_storeCell M47 1 rfl 3 (.tmp 57) (.tmp 56) (by rfl) (8 * k + j) (.int .i64 ((dot (t1 xs (8 * k + j)) l) + ((mt j l) * (xs.getD (8 * k + l) 0)))) (iv ((tab 64 (part2 (R1 xs) (8 * k + j) (dot (t1 xs (8 * k + j)) l))).set (8 * k + j) ((dot (t1 xs (8 * k + j)) l) + ((mt j l) * (xs.getD (8 * k + l) 0))))) (by kernel_rfl) (by kernel_rfl) (by rw [iv_size, tab_length]; omega) (by kernel_rfl) rfl (by kernel_rfl) (iv_set _ _ _) (by kernel_rfl) [(g21, .cells (iv zeros) 30 (0, 0)), (g18, .cells (iv ((tab 64 (part2 (R1 xs) (8 * k + j) (dot (t1 xs (8 * k + j)) l))).set (8 * k + j) ((dot (t1 xs (8 * k + j)) l) + ((mt j l) * (xs.getD (8 * k + l) 0))))) 30 (0, 0)), (g5, .cells (iv zeros) 30 (0, 0)), (g2, .cells (iv xs) 30 (0, 0))] rfl ?_
          intro W48 M49
          refine wl_nil ?_
          refine blk_normal ?_
          refine hK45 _ _ ?_
          try clear hK45 K45
          refine wp_frame (a' := ⟨#[.agg (iv xs), .pointer (some ⟨g2, 0, none⟩), .pointer (some ⟨g5, 0, none⟩), (u10 3), .int .i64 (n : Int), .pointer (some ⟨g18, 0, none⟩), .pointer (some ⟨g21, 0, none⟩), .int .i64 (k : Int), .int .i64 (j : Int), .int .i64 (l : Int), undef, undef, undef, .int .i64 (n : Int), .bool false, (u10 15), (u10 16), (u10 17), (u10 18), (u10 19), (u10 20), (u10 21), (u10 22), (u10 23), (u10 24), (u10 25), (u10 26), (u10 27), .int .i64 (k : Int), .bool true, (u26 30), (u26 31), .int .i64 (j : Int), .bool true, (u33 34), (u33 35), .int .i64 (l : Int), .bool true, (u40 38), (u40 39), .int .i64 (k : Int), .int .i64 (8 * (k : Int)), .int .i64 (j : Int), .int .i64 ((8 * (k : Int)) + (j : Int)), .pointer (some ⟨g18, 8 * k + j, none⟩), .int .i64 (dot (t1 xs (8 * k + j)) l), .int .i64 (j : Int), .int .i64 (l : Int), .int .i64 (mt j l), .int .i64 (k : Int), .int .i64 (8 * (k : Int)), .int .i64 (l : Int), .int .i64 ((8 * (k : Int)) + (l : Int)), .pointer (some ⟨g2, 8 * k + l, none⟩), .int .i64 (xs.getD (8 * k + l) 0), .int .i64 ((mt j l) * (xs.getD (8 * k + l) 0)), .int .i64 ((dot (t1 xs (8 * k + j)) l) + ((mt j l) * (xs.getD (8 * k + l) 0))), .pointer (some ⟨g18, 8 * k + j, none⟩), undef, undef, undef, undef, undef, undef, undef, undef, undef, undef, undef, undef, undef, undef, undef, undef, undef, undef, undef, undef, undef, undef, undef, undef, undef, undef, undef, undef, undef, undef, undef], []⟩) (by kernel_rfl) ?_
          refine wl_region ?_
          refine st_val (.int .i64 (l : Int)) (by kernel_rfl) (by kernel_rfl) ?_
          refine st_val (.int .i64 ((l : Int) + 1)) (by kernel_rfl) (i64_of (by omega) (by kernel_rfl)) ?_
          refine st_val (.int .i64 ((l : Int) + 1)) (by kernel_rfl) (by kernel_rfl) ?_
          refine wl_nil ?_
          refine th_normal ?_
          exact ⟨_, by omega, (l + 1), (fun zz => Array.getD #[.agg (iv xs), .pointer (some ⟨g2, 0, none⟩), .pointer (some ⟨g5, 0, none⟩), (u10 3), .int .i64 (n : Int), .pointer (some ⟨g18, 0, none⟩), .pointer (some ⟨g21, 0, none⟩), .int .i64 (k : Int), .int .i64 (j : Int), .int .i64 ((l : Int) + 1), undef, undef, undef, .int .i64 (n : Int), .bool false, (u10 15), (u10 16), (u10 17), (u10 18), (u10 19), (u10 20), (u10 21), (u10 22), (u10 23), (u10 24), (u10 25), (u10 26), (u10 27), .int .i64 (k : Int), .bool true, (u26 30), (u26 31), .int .i64 (j : Int), .bool true, (u33 34), (u33 35), .int .i64 (l : Int), .bool true, .int .i64 (l : Int), .int .i64 ((l : Int) + 1), .int .i64 (k : Int), .int .i64 (8 * (k : Int)), .int .i64 (j : Int), .int .i64 ((8 * (k : Int)) + (j : Int)), .pointer (some ⟨g18, 8 * k + j, none⟩), .int .i64 (dot (t1 xs (8 * k + j)) l), .int .i64 (j : Int), .int .i64 (l : Int), .int .i64 (mt j l), .int .i64 (k : Int), .int .i64 (8 * (k : Int)), .int .i64 (l : Int), .int .i64 ((8 * (k : Int)) + (l : Int)), .pointer (some ⟨g2, 8 * k + l, none⟩), .int .i64 (xs.getD (8 * k + l) 0), .int .i64 ((mt j l) * (xs.getD (8 * k + l) 0)), .int .i64 ((dot (t1 xs (8 * k + j)) l) + ((mt j l) * (xs.getD (8 * k + l) 0))), .pointer (some ⟨g18, 8 * k + j, none⟩), undef, undef, undef, undef, undef, undef, undef, undef, undef, undef, undef, undef, undef, undef, undef, undef, undef, undef, undef, undef, undef, undef, undef, undef, undef, undef, undef, undef, undef, undef, undef] zz undef), ⟨by omega, (by rw [← fw_step1 xs k j l (by omega)]; exact M49)⟩, rfl, (by kernel_rfl)⟩
        ·
          refine st_val (.bool false) (by kernel_rfl) (bool_of (dec_f c37) (by kernel_rfl)) ?_
          refine wl_nil ?_
          refine hK44 _ _ ?_
          try clear hK44 K44
          refine wp_cond_false (by kernel_rfl) ?_
          refine wp_exit ?_
          refine th_exit ?_
          refine th_exit ?_
          refine blk_exit ?_
          refine blk_normal ?_
          refine hK38 _ _ ?_
          try clear hK38 K38
          refine wl_region ?_
          refine st_val (.int .i64 (j : Int)) (by kernel_rfl) (by kernel_rfl) ?_
          refine st_val (.int .i64 ((j : Int) + 1)) (by kernel_rfl) (i64_of (by omega) (by kernel_rfl)) ?_
          refine st_val (.int .i64 ((j : Int) + 1)) (by kernel_rfl) (by kernel_rfl) ?_
          refine wl_nil ?_
          refine th_normal ?_
          exact ⟨_, by omega, (j + 1), (fun zz => Array.getD #[.agg (iv xs), .pointer (some ⟨g2, 0, none⟩), .pointer (some ⟨g5, 0, none⟩), (u10 3), .int .i64 (n : Int), .pointer (some ⟨g18, 0, none⟩), .pointer (some ⟨g21, 0, none⟩), .int .i64 (k : Int), .int .i64 ((j : Int) + 1), .int .i64 (l : Int), undef, undef, undef, .int .i64 (n : Int), .bool false, (u10 15), (u10 16), (u10 17), (u10 18), (u10 19), (u10 20), (u10 21), (u10 22), (u10 23), (u10 24), (u10 25), (u10 26), (u10 27), .int .i64 (k : Int), .bool true, (u26 30), (u26 31), .int .i64 (j : Int), .bool true, .int .i64 (j : Int), .int .i64 ((j : Int) + 1), .int .i64 (l : Int), .bool false, (u40 38), (u40 39), (u40 40), (u40 41), (u40 42), (u40 43), (u40 44), (u40 45), (u40 46), (u40 47), (u40 48), (u40 49), (u40 50), (u40 51), (u40 52), (u40 53), (u40 54), (u40 55), (u40 56), (u40 57), undef, undef, undef, undef, undef, undef, undef, undef, undef, undef, undef, undef, undef, undef, undef, undef, undef, undef, undef, undef, undef, undef, undef, undef, undef, undef, undef, undef, undef, undef, undef] zz undef), ⟨by omega, (by have h := M42; rw [part2_next (R1 xs) (8 * k + j) _ (by rw [show l = 8 by omega]; rfl)] at h; exact h)⟩, rfl, (by kernel_rfl)⟩
      ·
        refine st_val (.bool false) (by kernel_rfl) (bool_of (dec_f c33) (by kernel_rfl)) ?_
        refine wl_nil ?_
        refine hK37 _ _ ?_
        try clear hK37 K37
        refine wp_cond_false (by kernel_rfl) ?_
        refine wp_exit ?_
        refine th_exit ?_
        refine th_exit ?_
        refine blk_exit ?_
        refine blk_normal ?_
        refine hK31 _ _ ?_
        try clear hK31 K31
        refine wl_region ?_
        refine st_val (.int .i64 (k : Int)) (by kernel_rfl) (by kernel_rfl) ?_
        refine st_val (.int .i64 ((k : Int) + 1)) (by kernel_rfl) (i64_of (by omega) (by kernel_rfl)) ?_
        refine st_val (.int .i64 ((k : Int) + 1)) (by kernel_rfl) (by kernel_rfl) ?_
        refine wl_nil ?_
        refine th_normal ?_
        exact ⟨_, by omega, (k + 1), (fun zz => Array.getD #[.agg (iv xs), .pointer (some ⟨g2, 0, none⟩), .pointer (some ⟨g5, 0, none⟩), (u10 3), .int .i64 (n : Int), .pointer (some ⟨g18, 0, none⟩), .pointer (some ⟨g21, 0, none⟩), .int .i64 ((k : Int) + 1), .int .i64 (j : Int), (u33 9), undef, undef, undef, .int .i64 (n : Int), .bool false, (u10 15), (u10 16), (u10 17), (u10 18), (u10 19), (u10 20), (u10 21), (u10 22), (u10 23), (u10 24), (u10 25), (u10 26), (u10 27), .int .i64 (k : Int), .bool true, .int .i64 (k : Int), .int .i64 ((k : Int) + 1), .int .i64 (j : Int), .bool false, (u33 34), (u33 35), (u33 36), (u33 37), (u33 38), (u33 39), (u33 40), (u33 41), (u33 42), (u33 43), (u33 44), (u33 45), (u33 46), (u33 47), (u33 48), (u33 49), (u33 50), (u33 51), (u33 52), (u33 53), (u33 54), (u33 55), (u33 56), (u33 57), undef, undef, undef, undef, undef, undef, undef, undef, undef, undef, undef, undef, undef, undef, undef, undef, undef, undef, undef, undef, undef, undef, undef, undef, undef, undef, undef, undef, undef, undef, undef] zz undef), ⟨by omega, (by have h := M35; rw [show 8 * k + j = 8 * (k + 1) by omega] at h; exact h)⟩, rfl, (by kernel_rfl)⟩
    ·
      refine st_val (.bool false) (by kernel_rfl) (bool_of (dec_f c29) (by kernel_rfl)) ?_
      refine wl_nil ?_
      refine hK30 _ _ ?_
      try clear hK30 K30
      refine wp_cond_false (by kernel_rfl) ?_
      refine wp_exit ?_
      refine th_exit ?_
      refine th_exit ?_
      refine blk_exit ?_
      refine hK24 _ _ ?_
      try clear hK24 K24
      refine wp_seq_k (fun K50 hK50 => ?_)
      refine wp_seq_k (fun K51 hK51 => ?_)
      have M52 : Mem NoS w W27 [(g21, .cells (iv zeros) 30 (0, 0)), (g18, .cells (iv (tab 64 (R1 xs))) 30 (0, 0)), (g5, .cells (iv zeros) 30 (0, 0)), (g2, .cells (iv xs) 30 (0, 0))] := by
        have h := M28; rw [show 8 * k = 64 by omega, part2_end] at h; exact h
      refine wl_region ?_
      refine st_val (.int .i64 0) (by kernel_rfl) (by kernel_rfl) ?_
      refine wl_nil ?_
      refine hK51 _ _ ?_
      try clear hK51 K51
      refine wp_block ?_
      refine wp_loop_ghost (fun gn a' w' => ∃ (e : Nat) (u53 : Nat → Value), ((e ≤ 8) ∧ Mem NoS w w' [(g21, .cells (iv (tab 64 (part2 (Y1 xs) (8 * e) 0))) 30 (0, 0)), (g18, .cells (iv (tab 64 (R1 xs))) 30 (0, 0)), (g5, .cells (iv zeros) 30 (0, 0)), (g2, .cells (iv xs) 30 (0, 0))]) ∧ gn = 8 - e ∧ a' = ⟨#[.agg (iv xs), .pointer (some ⟨g2, 0, none⟩), .pointer (some ⟨g5, 0, none⟩), (u10 3), .int .i64 (n : Int), .pointer (some ⟨g18, 0, none⟩), .pointer (some ⟨g21, 0, none⟩), .int .i64 (k : Int), (u26 8), (u26 9), .int .i64 (e : Int), (u53 11), (u53 12), .int .i64 (n : Int), .bool false, (u10 15), (u10 16), (u10 17), (u10 18), (u10 19), (u10 20), (u10 21), (u10 22), (u10 23), (u10 24), (u10 25), (u10 26), (u10 27), .int .i64 (k : Int), .bool false, (u26 30), (u26 31), (u26 32), (u26 33), (u26 34), (u26 35), (u26 36), (u26 37), (u26 38), (u26 39), (u26 40), (u26 41), (u26 42), (u26 43), (u26 44), (u26 45), (u26 46), (u26 47), (u26 48), (u26 49), (u26 50), (u26 51), (u26 52), (u26 53), (u26 54), (u26 55), (u26 56), (u26 57), (u53 58), (u53 59), (u53 60), (u53 61), (u53 62), (u53 63), (u53 64), (u53 65), (u53 66), (u53 67), (u53 68), (u53 69), (u53 70), (u53 71), (u53 72), (u53 73), (u53 74), (u53 75), (u53 76), (u53 77), (u53 78), (u53 79), (u53 80), (u53 81), (u53 82), (u53 83), (u53 84), (u53 85), (u53 86), (u53 87), undef], []⟩) _ ⟨0, (fun zz => Array.getD #[.agg (iv xs), .pointer (some ⟨g2, 0, none⟩), .pointer (some ⟨g5, 0, none⟩), (u10 3), .int .i64 (n : Int), .pointer (some ⟨g18, 0, none⟩), .pointer (some ⟨g21, 0, none⟩), .int .i64 (k : Int), (u26 8), (u26 9), .int .i64 0, undef, undef, .int .i64 (n : Int), .bool false, (u10 15), (u10 16), (u10 17), (u10 18), (u10 19), (u10 20), (u10 21), (u10 22), (u10 23), (u10 24), (u10 25), (u10 26), (u10 27), .int .i64 (k : Int), .bool false, (u26 30), (u26 31), (u26 32), (u26 33), (u26 34), (u26 35), (u26 36), (u26 37), (u26 38), (u26 39), (u26 40), (u26 41), (u26 42), (u26 43), (u26 44), (u26 45), (u26 46), (u26 47), (u26 48), (u26 49), (u26 50), (u26 51), (u26 52), (u26 53), (u26 54), (u26 55), (u26 56), (u26 57), undef, undef, undef, undef, undef, undef, undef, undef, undef, undef, undef, undef, undef, undef, undef, undef, undef, undef, undef, undef, undef, undef, undef, undef, undef, undef, undef, undef, undef, undef, undef] zz undef), ⟨by omega, (by rw [fw_zero2]; exact M52)⟩, rfl, (by kernel_rfl)⟩ ?_
      rintro gn _ W54 ⟨e, u53, ⟨re, M55⟩, rfl, rfl⟩
      refine wp_seq_k (fun K56 hK56 => ?_)
      refine wp_seq_k (fun K57 hK57 => ?_)
      refine wl_region ?_
      refine st_val (.int .i64 (e : Int)) (by kernel_rfl) (by kernel_rfl) ?_
      rcases Decidable.em (((e : Int) : Int) < 8) with c59 | c59
      ·
        refine st_val (.bool true) (by kernel_rfl) (bool_of (dec_t c59) (by kernel_rfl)) ?_
        refine wl_nil ?_
        refine hK57 _ _ ?_
        try clear hK57 K57
        refine wp_cond_true (by kernel_rfl) ?_
        refine wp_skip ?_
        refine hK56 _ _ ?_
        try clear hK56 K56
        refine wp_seq_k (fun K58 hK58 => ?_)
        refine wp_block ?_
        refine wp_seq_k (fun K59 hK59 => ?_)
        refine wl_region ?_
        refine st_val (.int .i64 0) (by kernel_rfl) (by kernel_rfl) ?_
        refine wl_nil ?_
        refine hK59 _ _ ?_
        try clear hK59 K59
        refine wp_block ?_
        refine wp_loop_ghost (fun gn a' w' => ∃ (f : Nat) (u60 : Nat → Value), ((f ≤ 8) ∧ Mem NoS w w' [(g21, .cells (iv (tab 64 (part2 (Y1 xs) (8 * e + f) 0))) 30 (0, 0)), (g18, .cells (iv (tab 64 (R1 xs))) 30 (0, 0)), (g5, .cells (iv zeros) 30 (0, 0)), (g2, .cells (iv xs) 30 (0, 0))]) ∧ gn = 8 - f ∧ a' = ⟨#[.agg (iv xs), .pointer (some ⟨g2, 0, none⟩), .pointer (some ⟨g5, 0, none⟩), (u10 3), .int .i64 (n : Int), .pointer (some ⟨g18, 0, none⟩), .pointer (some ⟨g21, 0, none⟩), .int .i64 (k : Int), (u26 8), (u26 9), .int .i64 (e : Int), .int .i64 (f : Int), (u60 12), .int .i64 (n : Int), .bool false, (u10 15), (u10 16), (u10 17), (u10 18), (u10 19), (u10 20), (u10 21), (u10 22), (u10 23), (u10 24), (u10 25), (u10 26), (u10 27), .int .i64 (k : Int), .bool false, (u26 30), (u26 31), (u26 32), (u26 33), (u26 34), (u26 35), (u26 36), (u26 37), (u26 38), (u26 39), (u26 40), (u26 41), (u26 42), (u26 43), (u26 44), (u26 45), (u26 46), (u26 47), (u26 48), (u26 49), (u26 50), (u26 51), (u26 52), (u26 53), (u26 54), (u26 55), (u26 56), (u26 57), .int .i64 (e : Int), .bool true, (u53 60), (u53 61), (u60 62), (u60 63), (u60 64), (u60 65), (u60 66), (u60 67), (u60 68), (u60 69), (u60 70), (u60 71), (u60 72), (u60 73), (u60 74), (u60 75), (u60 76), (u60 77), (u60 78), (u60 79), (u60 80), (u60 81), (u60 82), (u60 83), (u60 84), (u60 85), (u60 86), (u60 87), undef], []⟩) _ ⟨0, (fun zz => Array.getD #[.agg (iv xs), .pointer (some ⟨g2, 0, none⟩), .pointer (some ⟨g5, 0, none⟩), (u10 3), .int .i64 (n : Int), .pointer (some ⟨g18, 0, none⟩), .pointer (some ⟨g21, 0, none⟩), .int .i64 (k : Int), (u26 8), (u26 9), .int .i64 (e : Int), .int .i64 0, (u53 12), .int .i64 (n : Int), .bool false, (u10 15), (u10 16), (u10 17), (u10 18), (u10 19), (u10 20), (u10 21), (u10 22), (u10 23), (u10 24), (u10 25), (u10 26), (u10 27), .int .i64 (k : Int), .bool false, (u26 30), (u26 31), (u26 32), (u26 33), (u26 34), (u26 35), (u26 36), (u26 37), (u26 38), (u26 39), (u26 40), (u26 41), (u26 42), (u26 43), (u26 44), (u26 45), (u26 46), (u26 47), (u26 48), (u26 49), (u26 50), (u26 51), (u26 52), (u26 53), (u26 54), (u26 55), (u26 56), (u26 57), .int .i64 (e : Int), .bool true, (u53 60), (u53 61), (u53 62), (u53 63), (u53 64), (u53 65), (u53 66), (u53 67), (u53 68), (u53 69), (u53 70), (u53 71), (u53 72), (u53 73), (u53 74), (u53 75), (u53 76), (u53 77), (u53 78), (u53 79), (u53 80), (u53 81), (u53 82), (u53 83), (u53 84), (u53 85), (u53 86), (u53 87), undef] zz undef), ⟨by omega, M55⟩, rfl, (by kernel_rfl)⟩ ?_
        rintro gn _ W61 ⟨f, u60, ⟨rf, M62⟩, rfl, rfl⟩
        refine wp_seq_k (fun K63 hK63 => ?_)
        refine wp_seq_k (fun K64 hK64 => ?_)
        refine wl_region ?_
        refine st_val (.int .i64 (f : Int)) (by kernel_rfl) (by kernel_rfl) ?_
        rcases Decidable.em (((f : Int) : Int) < 8) with c63 | c63
        ·
          refine st_val (.bool true) (by kernel_rfl) (bool_of (dec_t c63) (by kernel_rfl)) ?_
          refine wl_nil ?_
          refine hK64 _ _ ?_
          try clear hK64 K64
          refine wp_cond_true (by kernel_rfl) ?_
          refine wp_skip ?_
          refine hK63 _ _ ?_
          try clear hK63 K63
          refine wp_seq_k (fun K65 hK65 => ?_)
          refine wp_block ?_
          refine wp_seq_k (fun K66 hK66 => ?_)
          refine wl_region ?_
          refine st_val (.int .i64 0) (by kernel_rfl) (by kernel_rfl) ?_
          refine wl_nil ?_
          refine hK66 _ _ ?_
          try clear hK66 K66
          refine wp_block ?_
          refine wp_loop_ghost (fun gn a' w' => ∃ (h : Nat) (u67 : Nat → Value), ((h ≤ 8) ∧ Mem NoS w w' [(g21, .cells (iv (tab 64 (part2 (Y1 xs) (8 * e + f) (dot (t2 xs (8 * e + f)) h)))) 30 (0, 0)), (g18, .cells (iv (tab 64 (R1 xs))) 30 (0, 0)), (g5, .cells (iv zeros) 30 (0, 0)), (g2, .cells (iv xs) 30 (0, 0))]) ∧ gn = 8 - h ∧ a' = ⟨#[.agg (iv xs), .pointer (some ⟨g2, 0, none⟩), .pointer (some ⟨g5, 0, none⟩), (u10 3), .int .i64 (n : Int), .pointer (some ⟨g18, 0, none⟩), .pointer (some ⟨g21, 0, none⟩), .int .i64 (k : Int), (u26 8), (u26 9), .int .i64 (e : Int), .int .i64 (f : Int), .int .i64 (h : Int), .int .i64 (n : Int), .bool false, (u10 15), (u10 16), (u10 17), (u10 18), (u10 19), (u10 20), (u10 21), (u10 22), (u10 23), (u10 24), (u10 25), (u10 26), (u10 27), .int .i64 (k : Int), .bool false, (u26 30), (u26 31), (u26 32), (u26 33), (u26 34), (u26 35), (u26 36), (u26 37), (u26 38), (u26 39), (u26 40), (u26 41), (u26 42), (u26 43), (u26 44), (u26 45), (u26 46), (u26 47), (u26 48), (u26 49), (u26 50), (u26 51), (u26 52), (u26 53), (u26 54), (u26 55), (u26 56), (u26 57), .int .i64 (e : Int), .bool true, (u53 60), (u53 61), .int .i64 (f : Int), .bool true, (u60 64), (u60 65), (u67 66), (u67 67), (u67 68), (u67 69), (u67 70), (u67 71), (u67 72), (u67 73), (u67 74), (u67 75), (u67 76), (u67 77), (u67 78), (u67 79), (u67 80), (u67 81), (u67 82), (u67 83), (u67 84), (u67 85), (u67 86), (u67 87), undef], []⟩) _ ⟨0, (fun zz => Array.getD #[.agg (iv xs), .pointer (some ⟨g2, 0, none⟩), .pointer (some ⟨g5, 0, none⟩), (u10 3), .int .i64 (n : Int), .pointer (some ⟨g18, 0, none⟩), .pointer (some ⟨g21, 0, none⟩), .int .i64 (k : Int), (u26 8), (u26 9), .int .i64 (e : Int), .int .i64 (f : Int), .int .i64 0, .int .i64 (n : Int), .bool false, (u10 15), (u10 16), (u10 17), (u10 18), (u10 19), (u10 20), (u10 21), (u10 22), (u10 23), (u10 24), (u10 25), (u10 26), (u10 27), .int .i64 (k : Int), .bool false, (u26 30), (u26 31), (u26 32), (u26 33), (u26 34), (u26 35), (u26 36), (u26 37), (u26 38), (u26 39), (u26 40), (u26 41), (u26 42), (u26 43), (u26 44), (u26 45), (u26 46), (u26 47), (u26 48), (u26 49), (u26 50), (u26 51), (u26 52), (u26 53), (u26 54), (u26 55), (u26 56), (u26 57), .int .i64 (e : Int), .bool true, (u53 60), (u53 61), .int .i64 (f : Int), .bool true, (u60 64), (u60 65), (u60 66), (u60 67), (u60 68), (u60 69), (u60 70), (u60 71), (u60 72), (u60 73), (u60 74), (u60 75), (u60 76), (u60 77), (u60 78), (u60 79), (u60 80), (u60 81), (u60 82), (u60 83), (u60 84), (u60 85), (u60 86), (u60 87), undef] zz undef), ⟨by omega, M62⟩, rfl, (by kernel_rfl)⟩ ?_
          rintro gn _ W68 ⟨h, u67, ⟨rh, M69⟩, rfl, rfl⟩
          refine wp_seq_k (fun K70 hK70 => ?_)
          refine wp_seq_k (fun K71 hK71 => ?_)
          refine wl_region ?_
          refine st_val (.int .i64 (h : Int)) (by kernel_rfl) (by kernel_rfl) ?_
          rcases Decidable.em (((h : Int) : Int) < 8) with c67 | c67
          ·
            have b1 := fw_b2 hr e f h (by omega) (by omega) (by omega)
            have b2 := Y1_le hr (8 * e + f) (by omega) h (by omega)
            refine st_val (.bool true) (by kernel_rfl) (bool_of (dec_t c67) (by kernel_rfl)) ?_
            refine wl_nil ?_
            refine hK71 _ _ ?_
            try clear hK71 K71
            refine wp_cond_true (by kernel_rfl) ?_
            refine wp_skip ?_
            refine hK70 _ _ ?_
            try clear hK70 K70
            refine wp_seq_k (fun K72 hK72 => ?_)
            refine wp_block ?_
            refine wl_seq 18 (fun w' => Mem NoS w w' [(g21, .cells (iv (tab 64 (part2 (Y1 xs) (8 * e + f) (dot (t2 xs (8 * e + f)) h)))) 30 (0, 0)), (g18, .cells (iv (tab 64 (R1 xs))) 30 (0, 0)), (g5, .cells (iv zeros) 30 (0, 0)), (g2, .cells (iv xs) 30 (0, 0))]) (by decide) (by kernel_rfl) (by kernel_rfl) M69.drew ?_
            refine seq_run (v := .int .i64 (e : Int)) (by decide) (by kernel_rfl) (fun w' M' => (by kernel_rfl)) ?_
            refine seq_run (v := .int .i64 (8 * (e : Int))) (by decide) (by kernel_rfl) (fun w' M' => (i64_of (by omega) (by kernel_rfl))) ?_
            refine seq_run (v := .int .i64 (f : Int)) (by decide) (by kernel_rfl) (fun w' M' => (by kernel_rfl)) ?_
            refine seq_run (v := .int .i64 ((8 * (e : Int)) + (f : Int))) (by decide) (by kernel_rfl) (fun w' M' => (i64_of (by omega) (by kernel_rfl))) ?_
            refine seq_run (v := .pointer (some ⟨g21, 8 * e + f, none⟩)) (by decide) (by kernel_rfl) (fun w' M' => (run_indexAddr 30 (.tmp 6) (.tmp 73) rfl ⟨g21, 0, none⟩ .i64 (8 * e + f) (by kernel_rfl) (by kernel_rfl) Try.underlying30 1 (by kernel_rfl) (by omega) ⟨g21, 8 * e + f, none⟩ (addr_at0 _ _))) ?_
            refine seq_run (v := .int .i64 (dot (t2 xs (8 * e + f)) h)) (by decide) (by kernel_rfl) (fun w' M' => (run_load_cell 3 (.tmp 74) rfl ⟨g21, 8 * e + f, none⟩ (by kernel_rfl) _ (M'.cell 0 rfl (8 * e + f) _ ((iv_get _ _ (by rw [tab_length]; omega)).trans (by rw [part2_at _ _ _ (by omega)]))) (by kernel_rfl))) ?_
            refine seq_run (v := .int .i64 (e : Int)) (by decide) (by kernel_rfl) (fun w' M' => (by kernel_rfl)) ?_
            refine seq_run (v := .int .i64 (h : Int)) (by decide) (by kernel_rfl) (fun w' M' => (by kernel_rfl)) ?_
            refine seq_call (v := .int .i64 (mt e h)) (f := 46) (args := #[.int .i64 (e : Int), .int .i64 (h : Int)]) (by decide) (by kernel_rfl) (fun w' M' => (run_value_call 46 #[(Operand.tmp 76), (Operand.tmp 77)] _ rfl Try.func46 (by kernel_rfl) (by kernel_rfl) _ (by kernel_rfl))) (fun w' M' => callB_mem M' (refBasis_in w' e h (by omega) (by omega))) ?_
            refine seq_run (v := .int .i64 (h : Int)) (by decide) (by kernel_rfl) (fun w' M' => (by kernel_rfl)) ?_
            refine seq_run (v := .int .i64 (8 * (h : Int))) (by decide) (by kernel_rfl) (fun w' M' => (i64_of (by omega) (by kernel_rfl))) ?_
            refine seq_run (v := .int .i64 (f : Int)) (by decide) (by kernel_rfl) (fun w' M' => (by kernel_rfl)) ?_
            refine seq_run (v := .int .i64 ((8 * (h : Int)) + (f : Int))) (by decide) (by kernel_rfl) (fun w' M' => (i64_of (by omega) (by kernel_rfl))) ?_
            refine seq_run (v := .pointer (some ⟨g18, 8 * h + f, none⟩)) (by decide) (by kernel_rfl) (fun w' M' => (run_indexAddr 30 (.tmp 5) (.tmp 82) rfl ⟨g18, 0, none⟩ .i64 (8 * h + f) (by kernel_rfl) (by kernel_rfl) Try.underlying30 1 (by kernel_rfl) (by omega) ⟨g18, 8 * h + f, none⟩ (addr_at0 _ _))) ?_
            refine seq_run (v := .int .i64 (R1 xs (8 * h + f))) (by decide) (by kernel_rfl) (fun w' M' => (run_load_cell 3 (.tmp 83) rfl ⟨g18, 8 * h + f, none⟩ (by kernel_rfl) _ (M'.cell 1 rfl (8 * h + f) _ ((iv_get _ _ (by rw [tab_length]; omega)).trans (by rw [tab_getD _ _ _ (by omega)]))) (by kernel_rfl))) ?_
            refine seq_run (v := .int .i64 ((mt e h) * (R1 xs (8 * h + f)))) (by decide) (by kernel_rfl) (fun w' M' => (i64_of (by omega) (by kernel_rfl))) ?_
            refine seq_run (v := .int .i64 ((dot (t2 xs (8 * e + f)) h) + ((mt e h) * (R1 xs (8 * h + f))))) (by decide) (by kernel_rfl) (fun w' M' => (i64_of (by omega) (by kernel_rfl))) ?_
            refine seq_run (v := .pointer (some ⟨g21, 8 * e + f, none⟩)) (by decide) (by kernel_rfl) (fun w' M' => (run_indexAddr 30 (.tmp 6) (.tmp 73) rfl ⟨g21, 0, none⟩ .i64 (8 * e + f) (by kernel_rfl) (by kernel_rfl) Try.underlying30 1 (by kernel_rfl) (by omega) ⟨g21, 8 * e + f, none⟩ (addr_at0 _ _))) ?_
            refine seq_end (by decide) ?_
            intro W73 M74
            refine st_storeCell M74 0 rfl 3 (.tmp 87) (.tmp 86) (by rfl) (8 * e + f) (.int .i64 ((dot (t2 xs (8 * e + f)) h) + ((mt e h) * (R1 xs (8 * h + f))))) (iv ((tab 64 (part2 (Y1 xs) (8 * e + f) (dot (t2 xs (8 * e + f)) h))).set (8 * e + f) ((dot (t2 xs (8 * e + f)) h) + ((mt e h) * (R1 xs (8 * h + f)))))) (by kernel_rfl) (by kernel_rfl) (by rw [iv_size, tab_length]; omega) (by kernel_rfl) rfl (by kernel_rfl) (iv_set _ _ _) (by kernel_rfl) [(g21, .cells (iv ((tab 64 (part2 (Y1 xs) (8 * e + f) (dot (t2 xs (8 * e + f)) h))).set (8 * e + f) ((dot (t2 xs (8 * e + f)) h) + ((mt e h) * (R1 xs (8 * h + f)))))) 30 (0, 0)), (g18, .cells (iv (tab 64 (R1 xs))) 30 (0, 0)), (g5, .cells (iv zeros) 30 (0, 0)), (g2, .cells (iv xs) 30 (0, 0))] rfl ?_
            intro W75 M76
            refine wl_nil ?_
            refine blk_normal ?_
            refine hK72 _ _ ?_
            try clear hK72 K72
            refine wp_frame (a' := ⟨#[.agg (iv xs), .pointer (some ⟨g2, 0, none⟩), .pointer (some ⟨g5, 0, none⟩), (u10 3), .int .i64 (n : Int), .pointer (some ⟨g18, 0, none⟩), .pointer (some ⟨g21, 0, none⟩), .int .i64 (k : Int), (u26 8), (u26 9), .int .i64 (e : Int), .int .i64 (f : Int), .int .i64 (h : Int), .int .i64 (n : Int), .bool false, (u10 15), (u10 16), (u10 17), (u10 18), (u10 19), (u10 20), (u10 21), (u10 22), (u10 23), (u10 24), (u10 25), (u10 26), (u10 27), .int .i64 (k : Int), .bool false, (u26 30), (u26 31), (u26 32), (u26 33), (u26 34), (u26 35), (u26 36), (u26 37), (u26 38), (u26 39), (u26 40), (u26 41), (u26 42), (u26 43), (u26 44), (u26 45), (u26 46), (u26 47), (u26 48), (u26 49), (u26 50), (u26 51), (u26 52), (u26 53), (u26 54), (u26 55), (u26 56), (u26 57), .int .i64 (e : Int), .bool true, (u53 60), (u53 61), .int .i64 (f : Int), .bool true, (u60 64), (u60 65), .int .i64 (h : Int), .bool true, (u67 68), (u67 69), .int .i64 (e : Int), .int .i64 (8 * (e : Int)), .int .i64 (f : Int), .int .i64 ((8 * (e : Int)) + (f : Int)), .pointer (some ⟨g21, 8 * e + f, none⟩), .int .i64 (dot (t2 xs (8 * e + f)) h), .int .i64 (e : Int), .int .i64 (h : Int), .int .i64 (mt e h), .int .i64 (h : Int), .int .i64 (8 * (h : Int)), .int .i64 (f : Int), .int .i64 ((8 * (h : Int)) + (f : Int)), .pointer (some ⟨g18, 8 * h + f, none⟩), .int .i64 (R1 xs (8 * h + f)), .int .i64 ((mt e h) * (R1 xs (8 * h + f))), .int .i64 ((dot (t2 xs (8 * e + f)) h) + ((mt e h) * (R1 xs (8 * h + f)))), .pointer (some ⟨g21, 8 * e + f, none⟩), undef], []⟩) (by kernel_rfl) ?_
            refine wl_region ?_
            refine st_val (.int .i64 (h : Int)) (by kernel_rfl) (by kernel_rfl) ?_
            refine st_val (.int .i64 ((h : Int) + 1)) (by kernel_rfl) (i64_of (by omega) (by kernel_rfl)) ?_
            refine st_val (.int .i64 ((h : Int) + 1)) (by kernel_rfl) (by kernel_rfl) ?_
            refine wl_nil ?_
            refine th_normal ?_
            exact ⟨_, by omega, (h + 1), (fun zz => Array.getD #[.agg (iv xs), .pointer (some ⟨g2, 0, none⟩), .pointer (some ⟨g5, 0, none⟩), (u10 3), .int .i64 (n : Int), .pointer (some ⟨g18, 0, none⟩), .pointer (some ⟨g21, 0, none⟩), .int .i64 (k : Int), (u26 8), (u26 9), .int .i64 (e : Int), .int .i64 (f : Int), .int .i64 ((h : Int) + 1), .int .i64 (n : Int), .bool false, (u10 15), (u10 16), (u10 17), (u10 18), (u10 19), (u10 20), (u10 21), (u10 22), (u10 23), (u10 24), (u10 25), (u10 26), (u10 27), .int .i64 (k : Int), .bool false, (u26 30), (u26 31), (u26 32), (u26 33), (u26 34), (u26 35), (u26 36), (u26 37), (u26 38), (u26 39), (u26 40), (u26 41), (u26 42), (u26 43), (u26 44), (u26 45), (u26 46), (u26 47), (u26 48), (u26 49), (u26 50), (u26 51), (u26 52), (u26 53), (u26 54), (u26 55), (u26 56), (u26 57), .int .i64 (e : Int), .bool true, (u53 60), (u53 61), .int .i64 (f : Int), .bool true, (u60 64), (u60 65), .int .i64 (h : Int), .bool true, .int .i64 (h : Int), .int .i64 ((h : Int) + 1), .int .i64 (e : Int), .int .i64 (8 * (e : Int)), .int .i64 (f : Int), .int .i64 ((8 * (e : Int)) + (f : Int)), .pointer (some ⟨g21, 8 * e + f, none⟩), .int .i64 (dot (t2 xs (8 * e + f)) h), .int .i64 (e : Int), .int .i64 (h : Int), .int .i64 (mt e h), .int .i64 (h : Int), .int .i64 (8 * (h : Int)), .int .i64 (f : Int), .int .i64 ((8 * (h : Int)) + (f : Int)), .pointer (some ⟨g18, 8 * h + f, none⟩), .int .i64 (R1 xs (8 * h + f)), .int .i64 ((mt e h) * (R1 xs (8 * h + f))), .int .i64 ((dot (t2 xs (8 * e + f)) h) + ((mt e h) * (R1 xs (8 * h + f)))), .pointer (some ⟨g21, 8 * e + f, none⟩), undef] zz undef), ⟨by omega, (by rw [← fw_step2 xs e f h (by omega)]; exact M76)⟩, rfl, (by kernel_rfl)⟩
          ·
            refine st_val (.bool false) (by kernel_rfl) (bool_of (dec_f c67) (by kernel_rfl)) ?_
            refine wl_nil ?_
            refine hK71 _ _ ?_
            try clear hK71 K71
            refine wp_cond_false (by kernel_rfl) ?_
            refine wp_exit ?_
            refine th_exit ?_
            refine th_exit ?_
            refine blk_exit ?_
            refine blk_normal ?_
            refine hK65 _ _ ?_
            try clear hK65 K65
            refine wl_region ?_
            refine st_val (.int .i64 (f : Int)) (by kernel_rfl) (by kernel_rfl) ?_
            refine st_val (.int .i64 ((f : Int) + 1)) (by kernel_rfl) (i64_of (by omega) (by kernel_rfl)) ?_
            refine st_val (.int .i64 ((f : Int) + 1)) (by kernel_rfl) (by kernel_rfl) ?_
            refine wl_nil ?_
            refine th_normal ?_
            exact ⟨_, by omega, (f + 1), (fun zz => Array.getD #[.agg (iv xs), .pointer (some ⟨g2, 0, none⟩), .pointer (some ⟨g5, 0, none⟩), (u10 3), .int .i64 (n : Int), .pointer (some ⟨g18, 0, none⟩), .pointer (some ⟨g21, 0, none⟩), .int .i64 (k : Int), (u26 8), (u26 9), .int .i64 (e : Int), .int .i64 ((f : Int) + 1), .int .i64 (h : Int), .int .i64 (n : Int), .bool false, (u10 15), (u10 16), (u10 17), (u10 18), (u10 19), (u10 20), (u10 21), (u10 22), (u10 23), (u10 24), (u10 25), (u10 26), (u10 27), .int .i64 (k : Int), .bool false, (u26 30), (u26 31), (u26 32), (u26 33), (u26 34), (u26 35), (u26 36), (u26 37), (u26 38), (u26 39), (u26 40), (u26 41), (u26 42), (u26 43), (u26 44), (u26 45), (u26 46), (u26 47), (u26 48), (u26 49), (u26 50), (u26 51), (u26 52), (u26 53), (u26 54), (u26 55), (u26 56), (u26 57), .int .i64 (e : Int), .bool true, (u53 60), (u53 61), .int .i64 (f : Int), .bool true, .int .i64 (f : Int), .int .i64 ((f : Int) + 1), .int .i64 (h : Int), .bool false, (u67 68), (u67 69), (u67 70), (u67 71), (u67 72), (u67 73), (u67 74), (u67 75), (u67 76), (u67 77), (u67 78), (u67 79), (u67 80), (u67 81), (u67 82), (u67 83), (u67 84), (u67 85), (u67 86), (u67 87), undef] zz undef), ⟨by omega, (by have hh := M69; rw [part2_next (Y1 xs) (8 * e + f) _ (by rw [show h = 8 by omega]; rfl)] at hh; exact hh)⟩, rfl, (by kernel_rfl)⟩
        ·
          refine st_val (.bool false) (by kernel_rfl) (bool_of (dec_f c63) (by kernel_rfl)) ?_
          refine wl_nil ?_
          refine hK64 _ _ ?_
          try clear hK64 K64
          refine wp_cond_false (by kernel_rfl) ?_
          refine wp_exit ?_
          refine th_exit ?_
          refine th_exit ?_
          refine blk_exit ?_
          refine blk_normal ?_
          refine hK58 _ _ ?_
          try clear hK58 K58
          refine wl_region ?_
          refine st_val (.int .i64 (e : Int)) (by kernel_rfl) (by kernel_rfl) ?_
          refine st_val (.int .i64 ((e : Int) + 1)) (by kernel_rfl) (i64_of (by omega) (by kernel_rfl)) ?_
          refine st_val (.int .i64 ((e : Int) + 1)) (by kernel_rfl) (by kernel_rfl) ?_
          refine wl_nil ?_
          refine th_normal ?_
          exact ⟨_, by omega, (e + 1), (fun zz => Array.getD #[.agg (iv xs), .pointer (some ⟨g2, 0, none⟩), .pointer (some ⟨g5, 0, none⟩), (u10 3), .int .i64 (n : Int), .pointer (some ⟨g18, 0, none⟩), .pointer (some ⟨g21, 0, none⟩), .int .i64 (k : Int), (u26 8), (u26 9), .int .i64 ((e : Int) + 1), .int .i64 (f : Int), (u60 12), .int .i64 (n : Int), .bool false, (u10 15), (u10 16), (u10 17), (u10 18), (u10 19), (u10 20), (u10 21), (u10 22), (u10 23), (u10 24), (u10 25), (u10 26), (u10 27), .int .i64 (k : Int), .bool false, (u26 30), (u26 31), (u26 32), (u26 33), (u26 34), (u26 35), (u26 36), (u26 37), (u26 38), (u26 39), (u26 40), (u26 41), (u26 42), (u26 43), (u26 44), (u26 45), (u26 46), (u26 47), (u26 48), (u26 49), (u26 50), (u26 51), (u26 52), (u26 53), (u26 54), (u26 55), (u26 56), (u26 57), .int .i64 (e : Int), .bool true, .int .i64 (e : Int), .int .i64 ((e : Int) + 1), .int .i64 (f : Int), .bool false, (u60 64), (u60 65), (u60 66), (u60 67), (u60 68), (u60 69), (u60 70), (u60 71), (u60 72), (u60 73), (u60 74), (u60 75), (u60 76), (u60 77), (u60 78), (u60 79), (u60 80), (u60 81), (u60 82), (u60 83), (u60 84), (u60 85), (u60 86), (u60 87), undef] zz undef), ⟨by omega, (by have hh := M62; rw [show 8 * e + f = 8 * (e + 1) by omega] at hh; exact hh)⟩, rfl, (by kernel_rfl)⟩
      ·
        refine st_val (.bool false) (by kernel_rfl) (bool_of (dec_f c59) (by kernel_rfl)) ?_
        refine wl_nil ?_
        refine hK57 _ _ ?_
        try clear hK57 K57
        refine wp_cond_false (by kernel_rfl) ?_
        refine wp_exit ?_
        refine th_exit ?_
        refine th_exit ?_
        refine blk_exit ?_
        refine hK50 _ _ ?_
        try clear hK50 K50
        refine wp_seq_k (fun K77 hK77 => ?_)
        have M78 : Mem NoS w W54 [(g21, .cells (iv (fwd xs)) 30 (0, 0)), (g18, .cells (iv (tab 64 (R1 xs))) 30 (0, 0)), (g5, .cells (iv zeros) 30 (0, 0)), (g2, .cells (iv xs) 30 (0, 0))] := by
          have hh := M55; rw [show 8 * e = 64 by omega, part2_end] at hh; exact hh
        refine wl_region ?_
        refine st_val (.agg (iv (fwd xs))) (by kernel_rfl) (run_load_row 30 (.tmp 6) rfl g21 (by kernel_rfl) 30 (iv (fwd xs)) (0, 0) _ (M78.get 0 rfl) Try.underlying30 rfl (info64 _ (tab_length _ _))) ?_
        refine st_storeRow M78 2 rfl 30 (.tmp 2) (.tmp 88) (by rfl) (iv (fwd xs)) (by kernel_rfl) (by kernel_rfl) (info64 _ (tab_length _ _)) (iv_same (tab_length _ _) zeros_length) (iv_one _) (by kernel_rfl) [(g21, .cells (iv (fwd xs)) 30 (0, 0)), (g18, .cells (iv (tab 64 (R1 xs))) 30 (0, 0)), (g5, .cells (iv (fwd xs)) 30 (0, 0)), (g2, .cells (iv xs) 30 (0, 0))] rfl ?_
        intro W79 M80
        refine st_val (.int .i64 0) (by kernel_rfl) (by kernel_rfl) ?_
        refine wl_nil ?_
        refine hK77 _ _ ?_
        try clear hK77 K77
        refine wp_ret ?_
        exact doneRow2 2 30 3 (.int .i64 0) g5 30 (iv (fwd xs)) (0, 0) _ (by kernel_rfl) (by kernel_rfl) (by kernel_rfl) (M80.get 2 rfl) Try.underlying30 rfl (info64 _ (tab_length _ _)) (by kernel_rfl) ⟨rfl, M80.toBelow⟩
end Go.Proofs.Ytjclncmpfdfkfaa
