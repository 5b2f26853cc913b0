/- The scans of a block. -/
import Derived.Test.YtjclncmpfdfkfaaSc0
namespace Go.Proofs.Ytjclncmpfdfkfaa
open Go.RowKit
set_option maxHeartbeats 4000000 in
set_option maxRecDepth 100000 in
theorem zigzag_walk (w : World) : Calls Try.prog 51 #[] w fun e w' => e = .returned (.agg (iv (scL false))) ∧ Below w.heap.size w w' := by
  refine calls_of_wp Try.func51 rfl ?_
  refine wp_frame (a' := ⟨#[undef, undef, undef, undef, undef, undef, undef, undef, undef, undef, undef, undef, undef], []⟩) (by kernel_rfl) ?_
  have M0 : Mem NoS w w [] := Mem.start _ _
  refine wp_seq_k (fun K1 hK1 => ?_)
  refine wl_region ?_
  refine st_alloc M0 (.cells (iv zeros) 30 (0, 0)) (by kernel_rfl) (by kernel_rfl) ?_
  intro g2 W3 M4
  refine wl_nil ?_
  refine hK1 _ _ ?_
  try clear hK1 K1
  refine wp_seq_k (fun K5 hK5 => ?_)
  refine wl_region ?_
  refine st_alloc M4 (.cells (iv zeros) 30 (0, 0)) (by kernel_rfl) (by kernel_rfl) ?_
  intro g6 W7 M8
  refine wl_nil ?_
  refine hK5 _ _ ?_
  try clear hK5 K5
  refine wp_seq_k (fun K9 hK9 => ?_)
  refine wp_seq_k (fun K10 hK10 => ?_)
  refine wl_region ?_
  refine st_val (.int .i64 0) (by kernel_rfl) (by kernel_rfl) ?_
  refine wl_nil ?_
  refine hK10 _ _ ?_
  try clear hK10 K10
  refine wp_block ?_
  refine wp_loop_ghost (fun gn a' w' => ∃ (k : Nat) (u11 : Nat → Value), ((k ≤ 64) ∧ Mem NoS w w' [(g6, .cells (iv (tab 64 (fiTo idL k))) 30 (0, 0)), (g2, .cells (iv zeros) 30 (0, 0))]) ∧ gn = 64 - k ∧ a' = ⟨#[.pointer (some ⟨g2, 0, none⟩), .pointer (some ⟨g6, 0, none⟩), (u11 2), .int .i64 (k : Int), (u11 4), (u11 5), (u11 6), (u11 7), (u11 8), (u11 9), undef, undef, undef], []⟩) _ ⟨0, (fun zz => Array.getD #[undef, undef, undef, undef, undef, undef, undef, undef, undef, undef] zz undef), ⟨by omega, (by rw [fiTo_zero]; exact M8)⟩, rfl, (by kernel_rfl)⟩ ?_
  rintro gn _ W12 ⟨k, u11, ⟨rk, M13⟩, rfl, rfl⟩
  refine wp_seq_k (fun K14 hK14 => ?_)
  refine wl_region ?_
  rcases Decidable.em (((k : Int) : Int) < 64) with c4 | c4
  ·
    refine st_val (.bool true) (by kernel_rfl) (bool_of (dec_t c4) (by kernel_rfl)) ?_
    refine wl_nil ?_
    refine hK14 _ _ ?_
    try clear hK14 K14
    refine wp_seq_k (fun K15 hK15 => ?_)
    refine wp_cond_true (by kernel_rfl) ?_
    refine wp_skip ?_
    refine hK15 _ _ ?_
    try clear hK15 K15
    refine wp_seq_k (fun K16 hK16 => ?_)
    refine wp_block ?_
    refine wp_seq_k (fun K17 hK17 => ?_)
    refine wl_region ?_
    refine st_val (.int .i64 (k : Int)) (by kernel_rfl) (by kernel_rfl) ?_
    refine st_val (.int .i64 (k : Int)) (by kernel_rfl) (by kernel_rfl) ?_
    refine wl_nil ?_
    refine hK17 _ _ ?_
    try clear hK17 K17
    refine wl_region ?_
    refine st_val (.int .i64 (k : Int)) (by kernel_rfl) (by kernel_rfl) ?_
    refine st_val (.int .i64 (k : Int)) (by kernel_rfl) (by kernel_rfl) ?_
    refine st_val (.pointer (some ⟨g6, k, none⟩)) (by kernel_rfl) (run_indexAddr 30 (.tmp 1) (.tmp 6) rfl ⟨g6, 0, none⟩ .i64 k (by kernel_rfl) (by kernel_rfl) Try.underlying30 1 (by kernel_rfl) (by omega) ⟨g6, k, none⟩ (addr_at0 _ _)) ?_
    refine st_storeCell M13 0 rfl 3 (.tmp 8) (.tmp 7) (by rfl) k (.int .i64 (k : Int)) (iv ((tab 64 (fiTo idL k)).set k (k : Int))) (by kernel_rfl) (by kernel_rfl) (by rw [iv_size, (tab_length _ _)]; omega) (by kernel_rfl) rfl (by kernel_rfl) (iv_set _ _ _) (by kernel_rfl) [(g6, .cells (iv ((tab 64 (fiTo idL k)).set k (k : Int))) 30 (0, 0)), (g2, .cells (iv zeros) 30 (0, 0))] rfl ?_
    intro W18 M19
    refine wl_nil ?_
    refine blk_normal ?_
    refine hK16 _ _ ?_
    try clear hK16 K16
    refine wl_region ?_
    refine st_val (.int .i64 ((k : Int) + 1)) (by kernel_rfl) (i64_of (by omega) (by kernel_rfl)) ?_
    refine st_val (.int .i64 ((k : Int) + 1)) (by kernel_rfl) (by kernel_rfl) ?_
    refine wl_nil ?_
    refine th_normal ?_
    exact ⟨_, by omega, (k + 1), (fun zz => Array.getD #[undef, undef, .int .i64 (k : Int), undef, .bool true, .int .i64 (k : Int), .int .i64 (k : Int), .int .i64 (k : Int), .pointer (some ⟨g6, k, none⟩), .int .i64 ((k : Int) + 1)] zz undef), ⟨by omega, (by have hn := fiTo_next idL k; rw [idL_get (by omega)] at hn; rw [← hn]; exact M19)⟩, rfl, (by kernel_rfl)⟩
  ·
    refine st_val (.bool false) (by kernel_rfl) (bool_of (dec_f c4) (by kernel_rfl)) ?_
    refine wl_nil ?_
    refine hK14 _ _ ?_
    try clear hK14 K14
    refine wp_seq_k (fun K20 hK20 => ?_)
    refine wp_cond_false (by kernel_rfl) ?_
    refine wp_exit ?_
    refine th_exit ?_
    refine th_exit ?_
    refine blk_exit ?_
    refine hK9 _ _ ?_
    try clear hK9 K9
    refine wp_seq_k (fun K21 hK21 => ?_)
    have M22 : Mem NoS w W12 [(g6, .cells (iv idL) 30 (0, 0)), (g2, .cells (iv zeros) 30 (0, 0))] := by
      have hh := M13; rw [fiTo_end idL (tab_length _ _) k (by omega)] at hh; exact hh
    refine wl_region ?_
    refine st_val (.slice (some ⟨g6, 0, none⟩) 64 64) (by kernel_rfl) (run_sliceArr 30 (.tmp 1) rfl ⟨g6, 0, none⟩ (by kernel_rfl) Try.underlying30 1 (by kernel_rfl) rfl (by decide) rfl) ?_
    refine st_call (fun v w' => v = .tuple #[] ∧ Mem NoS w w' [(g6, .cells (iv (scL false)) 30 (0, 0)), (g2, .cells (iv zeros) 30 (0, 0))]) (by kernel_rfl) (run_value_call 54 #[(Operand.tmp 10), (Operand.func 55)] _ rfl Try.func54 (by kernel_rfl) (by kernel_rfl) _ (by kernel_rfl)) (sort_calls M22 (i := 0) rfl) (fun e w' h => ⟨_, h.1, rfl, h.2⟩) ?_
    rintro _ W23 ⟨rfl, M24⟩
    refine wl_nil ?_
    refine hK21 _ _ ?_
    try clear hK21 K21
    refine wp_seq_k (fun K25 hK25 => ?_)
    refine wl_region ?_
    refine st_val (.agg (iv (scL false))) (by kernel_rfl) (run_load_row 30 (.tmp 1) rfl g6 (by kernel_rfl) 30 (iv (scL false)) (0, 0) _ (M24.get 0 rfl) Try.underlying30 rfl (info64 _ (scL_length _))) ?_
    refine st_storeRow M24 1 rfl 30 (.tmp 0) (.tmp 12) (by rfl) (iv (scL false)) (by kernel_rfl) (by kernel_rfl) (info64 _ (scL_length _)) (iv_same (scL_length _) zeros_length) (iv_one _) (by kernel_rfl) [(g6, .cells (iv (scL false)) 30 (0, 0)), (g2, .cells (iv (scL false)) 30 (0, 0))] rfl ?_
    intro W26 M27
    refine wl_nil ?_
    refine hK25 _ _ ?_
    try clear hK25 K25
    refine wp_ret ?_
    exact doneRow 0 30 g2 30 (iv (scL false)) (0, 0) _ (by kernel_rfl) (by kernel_rfl) (M27.get 1 rfl) Try.underlying30 rfl (info64 _ (scL_length _)) (by kernel_rfl) ⟨rfl, M27.toBelow⟩
set_option maxHeartbeats 4000000 in
set_option maxRecDepth 100000 in
theorem scan_true (w : World) : Calls Try.prog 31 #[.bool true] w fun e w' => e = .returned (.agg (iv (scL true))) ∧ Below w.heap.size w w' := by
  refine calls_of_wp Try.func31 rfl ?_
  refine wp_frame (a' := ⟨#[.bool true, undef, undef, undef, undef, undef, undef], []⟩) (by kernel_rfl) ?_
  have M0 : Mem NoS w w [] := Mem.start _ _
  refine wp_seq_k (fun K1 hK1 => ?_)
  refine wl_region ?_
  refine st_alloc M0 (.cells (iv zeros) 30 (0, 0)) (by kernel_rfl) (by kernel_rfl) ?_
  intro g2 W3 M4
  refine wl_nil ?_
  refine hK1 _ _ ?_
  try clear hK1 K1
  refine wp_seq_k (fun K5 hK5 => ?_)
  refine wp_seq_k (fun K6 hK6 => ?_)
  refine wl_region ?_
  refine st_val (.bool true) (by kernel_rfl) (by kernel_rfl) ?_
  refine st_val (.bool false) (by kernel_rfl) (by kernel_rfl) ?_
  refine wl_nil ?_
  refine hK6 _ _ ?_
  try clear hK6 K6
  refine wp_cond_false (by kernel_rfl) ?_
  refine wp_skip ?_
  refine hK5 _ _ ?_
  try clear hK5 K5
  refine wp_seq_k (fun K7 hK7 => ?_)
  refine wl_region ?_
  refine st_val (.agg (iv (scL true))) (by kernel_rfl) (by kernel_rfl) ?_
  refine st_storeRow M4 0 rfl 30 (.tmp 2) (.tmp 6) (by rfl) (iv (scL true)) (by kernel_rfl) (by kernel_rfl) (info64 _ (scL_length _)) (iv_same (scL_length _) zeros_length) (iv_one _) (by kernel_rfl) [(g2, .cells (iv (scL true)) 30 (0, 0))] rfl ?_
  intro W8 M9
  refine wl_nil ?_
  refine hK7 _ _ ?_
  try clear hK7 K7
  refine wp_ret ?_
  exact doneRow 2 30 g2 30 (iv (scL true)) (0, 0) _ (by kernel_rfl) (by kernel_rfl) (M9.get 0 rfl) Try.underlying30 rfl (info64 _ (scL_length _)) (by kernel_rfl) ⟨rfl, M9.toBelow⟩
set_option maxHeartbeats 4000000 in
set_option maxRecDepth 100000 in
theorem scan_false (w : World) : Calls Try.prog 31 #[.bool false] w fun e w' => e = .returned (.agg (iv (scL false))) ∧ Below w.heap.size w w' := by
  refine calls_of_wp Try.func31 rfl ?_
  refine wp_frame (a' := ⟨#[.bool false, undef, undef, undef, undef, undef, undef], []⟩) (by kernel_rfl) ?_
  have M0 : Mem NoS w w [] := Mem.start _ _
  refine wp_seq_k (fun K1 hK1 => ?_)
  refine wl_region ?_
  refine st_alloc M0 (.cells (iv zeros) 30 (0, 0)) (by kernel_rfl) (by kernel_rfl) ?_
  intro g2 W3 M4
  refine wl_nil ?_
  refine hK1 _ _ ?_
  try clear hK1 K1
  refine wp_seq_k (fun K5 hK5 => ?_)
  refine wp_seq_k (fun K6 hK6 => ?_)
  refine wl_region ?_
  refine st_val (.bool false) (by kernel_rfl) (by kernel_rfl) ?_
  refine st_val (.bool true) (by kernel_rfl) (by kernel_rfl) ?_
  refine wl_nil ?_
  refine hK6 _ _ ?_
  try clear hK6 K6
  refine wp_cond_true (by kernel_rfl) ?_
  refine wp_seq_k (fun K7 hK7 => ?_)
  refine wl_region ?_
  refine st_callB M4 (.agg (iv (scL false))) (by kernel_rfl) (args := #[]) (run_value_call 51 #[] _ rfl Try.func51 (by kernel_rfl) (by kernel_rfl) _ (by kernel_rfl)) (zigzag_walk W3) ?_
  intro W8 M9
  refine st_storeRow M9 0 rfl 30 (.tmp 2) (.tmp 5) (by rfl) (iv (scL false)) (by kernel_rfl) (by kernel_rfl) (info64 _ (scL_length _)) (iv_same (scL_length _) zeros_length) (iv_one _) (by kernel_rfl) [(g2, .cells (iv (scL false)) 30 (0, 0))] rfl ?_
  intro W10 M11
  refine wl_nil ?_
  refine hK7 _ _ ?_
  try clear hK7 K7
  refine wp_ret ?_
  refine th_ret ?_
  exact doneRow 2 30 g2 30 (iv (scL false)) (0, 0) _ (by kernel_rfl) (by kernel_rfl) (M11.get 0 rfl) Try.underlying30 rfl (info64 _ (scL_length _)) (by kernel_rfl) ⟨rfl, M11.toBelow⟩
set_option maxHeartbeats 4000000 in
set_option maxRecDepth 100000 in
theorem refScan_true (w : World) : Calls Try.prog 32 #[.bool true] w fun e w' => e = .returned (.agg (iv (scL true))) ∧ Below w.heap.size w w' := by
  refine calls_of_wp Try.func32 rfl ?_
  refine wp_frame (a' := ⟨#[.bool true, undef, undef, undef, undef, undef, undef, undef, undef, undef, undef, undef, undef, undef, undef, undef, undef, undef, undef, undef, undef, undef, undef, undef, undef, undef, undef, undef, undef, undef, undef, undef, undef, undef, undef, undef, undef, undef, undef, undef, undef, undef, undef, undef, undef], []⟩) (by kernel_rfl) ?_
  have M0 : Mem NoS w w [] := Mem.start _ _
  refine wp_seq_k (fun K1 hK1 => ?_)
  refine wl_region ?_
  refine st_alloc M0 (.cells (iv zeros) 30 (0, 0)) (by kernel_rfl) (by kernel_rfl) ?_
  intro g2 W3 M4
  refine wl_nil ?_
  refine hK1 _ _ ?_
  try clear hK1 K1
  refine wp_seq_k (fun K5 hK5 => ?_)
  refine wp_seq_k (fun K6 hK6 => ?_)
  refine wl_region ?_
  refine st_val (.bool true) (by kernel_rfl) (by kernel_rfl) ?_
  refine wl_nil ?_
  refine hK6 _ _ ?_
  try clear hK6 K6
  refine wp_cond_true (by kernel_rfl) ?_
  refine wp_seq_k (fun K7 hK7 => ?_)
  refine wl_region ?_
  refine st_val (.agg (iv (scL true))) (by kernel_rfl) (by kernel_rfl) ?_
  refine st_storeRow M4 0 rfl 30 (.tmp 2) (.tmp 9) (by rfl) (iv (scL true)) (by kernel_rfl) (by kernel_rfl) (info64 _ (scL_length _)) (iv_same (scL_length _) zeros_length) (iv_one _) (by kernel_rfl) [(g2, .cells (iv (scL true)) 30 (0, 0))] rfl ?_
  intro W8 M9
  refine wl_nil ?_
  refine hK7 _ _ ?_
  try clear hK7 K7
  refine wp_ret ?_
  refine th_ret ?_
  exact doneRow 2 30 g2 30 (iv (scL true)) (0, 0) _ (by kernel_rfl) (by kernel_rfl) (M9.get 0 rfl) Try.underlying30 rfl (info64 _ (scL_length _)) (by kernel_rfl) ⟨rfl, M9.toBelow⟩
set_option maxHeartbeats 4000000 in
set_option maxRecDepth 100000 in
theorem refScan_false (w : World) : Calls Try.prog 32 #[.bool false] w fun e w' => e = .returned (.agg (iv (scL false))) ∧ Below w.heap.size w w' := by
  refine calls_of_wp Try.func32 rfl ?_
  refine wp_frame (a' := ⟨#[.bool false, undef, undef, undef, undef, undef, undef, undef, undef, undef, undef, undef, undef, undef, undef, undef, undef, undef, undef, undef, undef, undef, undef, undef, undef, undef, undef, undef, undef, undef, undef, undef, undef, undef, undef, undef, undef, undef, undef, undef, undef, undef, undef, undef, undef], []⟩) (by kernel_rfl) ?_
  have M0 : Mem NoS w w [] := Mem.start _ _
  refine wp_seq_k (fun K1 hK1 => ?_)
  refine wl_region ?_
  refine st_alloc M0 (.cells (iv zeros) 30 (0, 0)) (by kernel_rfl) (by kernel_rfl) ?_
  intro g2 W3 M4
  refine wl_nil ?_
  refine hK1 _ _ ?_
  try clear hK1 K1
  refine wp_seq_k (fun K5 hK5 => ?_)
  refine wp_seq_k (fun K6 hK6 => ?_)
  refine wl_region ?_
  refine st_val (.bool false) (by kernel_rfl) (by kernel_rfl) ?_
  refine wl_nil ?_
  refine hK6 _ _ ?_
  try clear hK6 K6
  refine wp_cond_false (by kernel_rfl) ?_
  refine wp_skip ?_
  refine hK5 _ _ ?_
  try clear hK5 K5
  refine wp_seq_k (fun K7 hK7 => ?_)
  refine wl_region ?_
  refine st_alloc M4 (.cells (iv zeros) 30 (0, 0)) (by kernel_rfl) (by kernel_rfl) ?_
  intro g8 W9 M10
  refine wl_nil ?_
  refine hK7 _ _ ?_
  try clear hK7 K7
  refine wp_seq_k (fun K11 hK11 => ?_)
  refine wl_region ?_
  refine st_val (.int .i64 0) (by kernel_rfl) (by kernel_rfl) ?_
  refine wl_nil ?_
  refine hK11 _ _ ?_
  try clear hK11 K11
  refine wp_seq_k (fun K12 hK12 => ?_)
  refine wp_seq_k (fun K13 hK13 => ?_)
  refine wl_region ?_
  refine st_val (.int .i64 0) (by kernel_rfl) (by kernel_rfl) ?_
  refine wl_nil ?_
  refine hK13 _ _ ?_
  try clear hK13 K13
  refine wp_block ?_
  refine wp_loop_ghost (fun gn a' w' => ∃ (s : Nat) (u14 : Nat → Value), ((s ≤ 15) ∧ Mem NoS w w' [(g8, .cells (iv (tab 64 (fiTo (scL false) (zcnt (8 * s))))) 30 (0, 0)), (g2, .cells (iv zeros) 30 (0, 0))]) ∧ gn = 15 - s ∧ a' = ⟨#[.bool false, undef, .pointer (some ⟨g2, 0, none⟩), .pointer (some ⟨g8, 0, none⟩), .int .i64 ((zcnt (8 * s) : Nat) : Int), .int .i64 ((s : Nat) : Int), (u14 6), (u14 7), .bool false, undef, (u14 10), (u14 11), (u14 12), (u14 13), (u14 14), (u14 15), (u14 16), (u14 17), (u14 18), (u14 19), (u14 20), (u14 21), (u14 22), (u14 23), (u14 24), (u14 25), (u14 26), (u14 27), (u14 28), (u14 29), (u14 30), (u14 31), (u14 32), (u14 33), (u14 34), (u14 35), (u14 36), (u14 37), (u14 38), (u14 39), (u14 40), (u14 41), (u14 42), (u14 43), undef], []⟩) _ ⟨0, (fun zz => Array.getD #[undef, undef, undef, undef, undef, undef, undef, undef, undef, undef, undef, undef, undef, undef, undef, undef, undef, undef, undef, undef, undef, undef, undef, undef, undef, undef, undef, undef, undef, undef, undef, undef, undef, undef, undef, undef, undef, undef, undef, undef, undef, undef, undef, undef] zz undef), ⟨by omega, (by rw [show zcnt (8 * 0) = 0 from rfl, fiTo_zero]; exact M10)⟩, rfl, (by kernel_rfl)⟩ ?_
  rintro gn _ W15 ⟨s, u14, ⟨rs, M16⟩, rfl, rfl⟩
  refine wp_seq_k (fun K17 hK17 => ?_)
  refine wp_seq_k (fun K18 hK18 => ?_)
  refine wl_region ?_
  refine st_val (.int .i64 ((s : Nat) : Int)) (by kernel_rfl) (by kernel_rfl) ?_
  rcases Decidable.em ((((s : Nat) : Int) : Int) < 15) with c11 | c11
  ·
    refine st_val (.bool true) (by kernel_rfl) (bool_of (dec_t c11) (by kernel_rfl)) ?_
    refine wl_nil ?_
    refine hK18 _ _ ?_
    try clear hK18 K18
    refine wp_cond_true (by kernel_rfl) ?_
    refine wp_skip ?_
    refine hK17 _ _ ?_
    try clear hK17 K17
    refine wp_seq_k (fun K19 hK19 => ?_)
    refine wp_block ?_
    refine wp_seq_k (fun K20 hK20 => ?_)
    refine wl_region ?_
    refine st_val (.int .i64 0) (by kernel_rfl) (by kernel_rfl) ?_
    refine wl_nil ?_
    refine hK20 _ _ ?_
    try clear hK20 K20
    refine wp_block ?_
    refine wp_loop_ghost (fun gn a' w' => ∃ (n : Nat) (u21 : Nat → Value), ((n ≤ 8) ∧ Mem NoS w w' [(g8, .cells (iv (tab 64 (fiTo (scL false) (zcnt (8 * s + n))))) 30 (0, 0)), (g2, .cells (iv zeros) 30 (0, 0))]) ∧ gn = 8 - n ∧ a' = ⟨#[.bool false, undef, .pointer (some ⟨g2, 0, none⟩), .pointer (some ⟨g8, 0, none⟩), .int .i64 ((zcnt (8 * s + n) : Nat) : Int), .int .i64 ((s : Nat) : Int), .int .i64 ((n : Nat) : Int), (u21 7), .bool false, undef, .int .i64 ((s : Nat) : Int), .bool true, (u14 12), (u14 13), (u21 14), (u21 15), (u21 16), (u21 17), (u21 18), (u21 19), (u21 20), (u21 21), (u21 22), (u21 23), (u21 24), (u21 25), (u21 26), (u21 27), (u21 28), (u21 29), (u21 30), (u21 31), (u21 32), (u21 33), (u21 34), (u21 35), (u21 36), (u21 37), (u21 38), (u21 39), (u21 40), (u21 41), (u21 42), (u21 43), undef], []⟩) _ ⟨0, (fun zz => Array.getD #[undef, undef, undef, undef, undef, undef, undef, (u14 7), undef, undef, undef, undef, undef, undef, (u14 14), (u14 15), (u14 16), (u14 17), (u14 18), (u14 19), (u14 20), (u14 21), (u14 22), (u14 23), (u14 24), (u14 25), (u14 26), (u14 27), (u14 28), (u14 29), (u14 30), (u14 31), (u14 32), (u14 33), (u14 34), (u14 35), (u14 36), (u14 37), (u14 38), (u14 39), (u14 40), (u14 41), (u14 42), (u14 43)] zz undef), ⟨by omega, M16⟩, rfl, (by kernel_rfl)⟩ ?_
    rintro gn _ W22 ⟨n, u21, ⟨rn, M23⟩, rfl, rfl⟩
    refine wp_seq_k (fun K24 hK24 => ?_)
    refine wp_seq_k (fun K25 hK25 => ?_)
    refine wl_region ?_
    refine st_val (.int .i64 ((n : Nat) : Int)) (by kernel_rfl) (by kernel_rfl) ?_
    rcases Decidable.em ((((n : Nat) : Int) : Int) < 8) with c15 | c15
    ·
      refine st_val (.bool true) (by kernel_rfl) (bool_of (dec_t c15) (by kernel_rfl)) ?_
      refine wl_nil ?_
      refine hK25 _ _ ?_
      try clear hK25 K25
      refine wp_cond_true (by kernel_rfl) ?_
      refine wp_skip ?_
      refine hK24 _ _ ?_
      try clear hK24 K24
      refine wp_seq_k (fun K26 hK26 => ?_)
      refine wp_block ?_
      refine wp_seq_k (fun K27 hK27 => ?_)
      refine wl_region ?_
      refine st_val (.int .i64 ((n : Nat) : Int)) (by kernel_rfl) (by kernel_rfl) ?_
      refine st_val (.int .i64 ((n : Nat) : Int)) (by kernel_rfl) (by kernel_rfl) ?_
      refine wl_nil ?_
      refine hK27 _ _ ?_
      try clear hK27 K27
      refine wp_seq_k (fun K28 hK28 => ?_)
      refine wp_seq_k (fun K29 hK29 => ?_)
      refine wl_region ?_
      refine st_val (.int .i64 ((s : Nat) : Int)) (by kernel_rfl) (by kernel_rfl) ?_
      refine st_val (.int .i64 (((s : Nat) : Int) % 2)) (by kernel_rfl) (int_of (rem_of ((s : Nat) : Int) 2 (by omega)) (by kernel_rfl)) ?_
      rcases Decidable.em ((((s : Nat) : Int) % 2 : Int) = 0) with c21 | c21
      ·
        refine st_val (.bool true) (by kernel_rfl) (bool_of (dec_t c21) (by kernel_rfl)) ?_
        refine wl_nil ?_
        refine hK29 _ _ ?_
        try clear hK29 K29
        refine wp_cond_true (by kernel_rfl) ?_
        refine wl_region ?_
        refine st_val (.int .i64 ((n : Nat) : Int)) (by kernel_rfl) (by kernel_rfl) ?_
        refine st_val (.int .i64 ((7 - n : Nat) : Int)) (by kernel_rfl) (int_of (show 7 - ((n : Nat) : Int) = ((7 - n : Nat) : Int) by omega) (i64_of (by omega) (by kernel_rfl))) ?_
        refine st_val (.int .i64 ((7 - n : Nat) : Int)) (by kernel_rfl) (by kernel_rfl) ?_
        refine wl_nil ?_
        refine hK28 _ _ ?_
        try clear hK28 K28
        refine wp_seq_k (fun K30 hK30 => ?_)
        have hz := z_facts (s := s) (n := n) (r := 7 - n) (by omega) (by omega) (by rw [if_pos (by omega)])
        refine wl_region ?_
        refine st_val (.int .i64 ((s : Nat) : Int)) (by kernel_rfl) (by kernel_rfl) ?_
        refine st_val (.int .i64 ((7 - n : Nat) : Int)) (by kernel_rfl) (by kernel_rfl) ?_
        refine st_val (.int .i64 (((s : Nat) : Int) - ((7 - n : Nat) : Int))) (by kernel_rfl) (i64_of (by omega) (by kernel_rfl)) ?_
        rcases Decidable.em ((((s : Nat) : Int) - ((7 - n : Nat) : Int) : Int) ≥ 0) with c27 | c27
        ·
          refine st_val (.bool true) (by kernel_rfl) (bool_of (dec_t c27) (by kernel_rfl)) ?_
          refine st_val (.bool true) (by kernel_rfl) (by kernel_rfl) ?_
          refine st_val (.int .i64 ((s : Nat) : Int)) (by kernel_rfl) (by kernel_rfl) ?_
          refine st_val (.int .i64 ((7 - n : Nat) : Int)) (by kernel_rfl) (by kernel_rfl) ?_
          refine st_val (.int .i64 (((s : Nat) : Int) - ((7 - n : Nat) : Int))) (by kernel_rfl) (i64_of (by omega) (by kernel_rfl)) ?_
          rcases Decidable.em ((((s : Nat) : Int) - ((7 - n : Nat) : Int) : Int) < 8) with c32 | c32
          ·
            refine st_val (.bool true) (by kernel_rfl) (bool_of (dec_t c32) (by kernel_rfl)) ?_
            refine st_val (.bool true) (by kernel_rfl) (by kernel_rfl) ?_
            refine wl_nil ?_
            refine hK30 _ _ ?_
            try clear hK30 K30
            refine wp_frame (a' := ⟨#[.bool false, undef, .pointer (some ⟨g2, 0, none⟩), .pointer (some ⟨g8, 0, none⟩), .int .i64 ((zcnt (8 * s + n) : Nat) : Int), .int .i64 ((s : Nat) : Int), .int .i64 ((n : Nat) : Int), .int .i64 ((7 - n : Nat) : Int), .bool false, undef, .int .i64 ((s : Nat) : Int), .bool true, (u14 12), (u14 13), .int .i64 ((n : Nat) : Int), .bool true, (u21 16), (u21 17), .int .i64 ((n : Nat) : Int), .int .i64 ((s : Nat) : Int), .int .i64 (((s : Nat) : Int) % 2), .bool true, .int .i64 ((n : Nat) : Int), .int .i64 ((7 - n : Nat) : Int), .int .i64 ((s : Nat) : Int), .int .i64 ((7 - n : Nat) : Int), .int .i64 (((s : Nat) : Int) - ((7 - n : Nat) : Int)), .bool true, .bool true, .int .i64 ((s : Nat) : Int), .int .i64 ((7 - n : Nat) : Int), .int .i64 (((s : Nat) : Int) - ((7 - n : Nat) : Int)), .bool true, .bool true, (u21 34), (u21 35), (u21 36), (u21 37), (u21 38), (u21 39), (u21 40), (u21 41), (u21 42), (u21 43), undef], []⟩) (by kernel_rfl) ?_
            refine wp_cond_true (by kernel_rfl) ?_
            refine wp_seq_k (fun K31 hK31 => ?_)
            have hz1 := hz.1 (by omega) (by omega)
            refine wl_region ?_
            refine st_val (.int .i64 ((zcnt (8 * s + n) : Nat) : Int)) (by kernel_rfl) (by kernel_rfl) ?_
            refine st_val (.int .i64 ((7 - n : Nat) : Int)) (by kernel_rfl) (by kernel_rfl) ?_
            refine st_val (.int .i64 (8 * ((7 - n : Nat) : Int))) (by kernel_rfl) (i64_of (by omega) (by kernel_rfl)) ?_
            refine st_val (.int .i64 ((s : Nat) : Int)) (by kernel_rfl) (by kernel_rfl) ?_
            refine st_val (.int .i64 ((8 * ((7 - n : Nat) : Int)) + ((s : Nat) : Int))) (by kernel_rfl) (i64_of (by omega) (by kernel_rfl)) ?_
            refine st_val (.int .i64 ((7 - n : Nat) : Int)) (by kernel_rfl) (by kernel_rfl) ?_
            refine st_val (.int .i64 ((8 * (7 - n) + s - (7 - n) : Nat) : Int)) (by kernel_rfl) (int_of (show ((8 * ((7 - n : Nat) : Int)) + ((s : Nat) : Int)) - ((7 - n : Nat) : Int) = ((8 * (7 - n) + s - (7 - n) : Nat) : Int) by omega) (i64_of (by omega) (by kernel_rfl))) ?_
            refine st_val (.pointer (some ⟨g8, zcnt (8 * s + n), none⟩)) (by kernel_rfl) (run_indexAddr 30 (.tmp 3) (.tmp 34) rfl ⟨g8, 0, none⟩ .i64 (zcnt (8 * s + n)) (by kernel_rfl) (by kernel_rfl) Try.underlying30 1 (by kernel_rfl) (by omega) ⟨g8, zcnt (8 * s + n), none⟩ (addr_at0 _ _)) ?_
            refine st_storeCell M23 0 rfl 3 (.tmp 41) (.tmp 40) (by rfl) (zcnt (8 * s + n)) (.int .i64 ((8 * (7 - n) + s - (7 - n) : Nat) : Int)) (iv ((tab 64 (fiTo (scL false) (zcnt (8 * s + n)))).set (zcnt (8 * s + n)) ((8 * (7 - n) + s - (7 - n) : Nat) : Int))) (by kernel_rfl) (by kernel_rfl) (by rw [iv_size, (tab_length _ _)]; omega) (by kernel_rfl) rfl (by kernel_rfl) (iv_set _ _ _) (by kernel_rfl) [(g8, .cells (iv ((tab 64 (fiTo (scL false) (zcnt (8 * s + n)))).set (zcnt (8 * s + n)) ((8 * (7 - n) + s - (7 - n) : Nat) : Int))) 30 (0, 0)), (g2, .cells (iv zeros) 30 (0, 0))] rfl ?_
            intro W32 M33
            refine wl_nil ?_
            refine hK31 _ _ ?_
            try clear hK31 K31
            refine wl_region ?_
            refine st_val (.int .i64 ((zcnt (8 * s + n) : Nat) : Int)) (by kernel_rfl) (by kernel_rfl) ?_
            refine st_val (.int .i64 ((zcnt (8 * s + n) + 1 : Nat) : Int)) (by kernel_rfl) (int_of (show ((zcnt (8 * s + n) : Nat) : Int) + 1 = ((zcnt (8 * s + n) + 1 : Nat) : Int) by omega) (i64_of (by omega) (by kernel_rfl))) ?_
            refine st_val (.int .i64 ((zcnt (8 * s + n) + 1 : Nat) : Int)) (by kernel_rfl) (by kernel_rfl) ?_
            refine wl_nil ?_
            refine blk_normal ?_
            refine hK26 _ _ ?_
            try clear hK26 K26
            refine wp_frame (a' := ⟨#[.bool false, undef, .pointer (some ⟨g2, 0, none⟩), .pointer (some ⟨g8, 0, none⟩), .int .i64 ((zcnt (8 * s + (n + 1)) : Nat) : Int), .int .i64 ((s : Nat) : Int), .int .i64 ((n : Nat) : Int), .int .i64 ((7 - n : Nat) : Int), .bool false, undef, .int .i64 ((s : Nat) : Int), .bool true, (u14 12), (u14 13), .int .i64 ((n : Nat) : Int), .bool true, (u21 16), (u21 17), .int .i64 ((n : Nat) : Int), .int .i64 ((s : Nat) : Int), .int .i64 (((s : Nat) : Int) % 2), .bool true, .int .i64 ((n : Nat) : Int), .int .i64 ((7 - n : Nat) : Int), .int .i64 ((s : Nat) : Int), .int .i64 ((7 - n : Nat) : Int), .int .i64 (((s : Nat) : Int) - ((7 - n : Nat) : Int)), .bool true, .bool true, .int .i64 ((s : Nat) : Int), .int .i64 ((7 - n : Nat) : Int), .int .i64 (((s : Nat) : Int) - ((7 - n : Nat) : Int)), .bool true, .bool true, .int .i64 ((zcnt (8 * s + n) : Nat) : Int), .int .i64 ((7 - n : Nat) : Int), .int .i64 (8 * ((7 - n : Nat) : Int)), .int .i64 ((s : Nat) : Int), .int .i64 ((8 * ((7 - n : Nat) : Int)) + ((s : Nat) : Int)), .int .i64 ((7 - n : Nat) : Int), .int .i64 ((8 * (7 - n) + s - (7 - n) : Nat) : Int), .pointer (some ⟨g8, zcnt (8 * s + n), none⟩), .int .i64 ((zcnt (8 * s + n) : Nat) : Int), .int .i64 ((zcnt (8 * s + n) + 1 : Nat) : Int), undef], []⟩) (by rw [← Nat.add_assoc (8 * s), (hz.1 (by omega) (by omega)).2.2] <;> kernel_rfl) ?_
            refine wl_region ?_
            refine st_val (.int .i64 ((n : Nat) : Int)) (by kernel_rfl) (by kernel_rfl) ?_
            refine st_val (.int .i64 (((n : Nat) : Int) + 1)) (by kernel_rfl) (i64_of (by omega) (by kernel_rfl)) ?_
            refine st_val (.int .i64 (((n : Nat) : Int) + 1)) (by kernel_rfl) (by kernel_rfl) ?_
            refine wl_nil ?_
            refine th_normal ?_
            exact ⟨_, by omega, (n + 1), (fun zz => Array.getD #[undef, undef, undef, undef, undef, undef, undef, .int .i64 ((7 - n : Nat) : Int), undef, undef, undef, undef, undef, undef, .int .i64 ((n : Nat) : Int), .bool true, .int .i64 ((n : Nat) : Int), .int .i64 (((n : Nat) : Int) + 1), .int .i64 ((n : Nat) : Int), .int .i64 ((s : Nat) : Int), .int .i64 (((s : Nat) : Int) % 2), .bool true, .int .i64 ((n : Nat) : Int), .int .i64 ((7 - n : Nat) : Int), .int .i64 ((s : Nat) : Int), .int .i64 ((7 - n : Nat) : Int), .int .i64 (((s : Nat) : Int) - ((7 - n : Nat) : Int)), .bool true, .bool true, .int .i64 ((s : Nat) : Int), .int .i64 ((7 - n : Nat) : Int), .int .i64 (((s : Nat) : Int) - ((7 - n : Nat) : Int)), .bool true, .bool true, .int .i64 ((zcnt (8 * s + n) : Nat) : Int), .int .i64 ((7 - n : Nat) : Int), .int .i64 (8 * ((7 - n : Nat) : Int)), .int .i64 ((s : Nat) : Int), .int .i64 ((8 * ((7 - n : Nat) : Int)) + ((s : Nat) : Int)), .int .i64 ((7 - n : Nat) : Int), .int .i64 ((8 * (7 - n) + s - (7 - n) : Nat) : Int), .pointer (some ⟨g8, zcnt (8 * s + n), none⟩), .int .i64 ((zcnt (8 * s + n) : Nat) : Int), .int .i64 ((zcnt (8 * s + n) + 1 : Nat) : Int)] zz undef), ⟨by omega, (by rw [← Nat.add_assoc, (hz.1 (by omega) (by omega)).2.2, ← fiTo_next, ← (hz.1 (by omega) (by omega)).2.1]; exact M33)⟩, rfl, (by kernel_rfl)⟩
          ·
            refine st_val (.bool false) (by kernel_rfl) (bool_of (dec_f c32) (by kernel_rfl)) ?_
            refine st_val (.bool false) (by kernel_rfl) (by kernel_rfl) ?_
            refine wl_nil ?_
            refine hK30 _ _ ?_
            try clear hK30 K30
            refine wp_frame (a' := ⟨#[.bool false, undef, .pointer (some ⟨g2, 0, none⟩), .pointer (some ⟨g8, 0, none⟩), .int .i64 ((zcnt (8 * s + n) : Nat) : Int), .int .i64 ((s : Nat) : Int), .int .i64 ((n : Nat) : Int), .int .i64 ((7 - n : Nat) : Int), .bool false, undef, .int .i64 ((s : Nat) : Int), .bool true, (u14 12), (u14 13), .int .i64 ((n : Nat) : Int), .bool true, (u21 16), (u21 17), .int .i64 ((n : Nat) : Int), .int .i64 ((s : Nat) : Int), .int .i64 (((s : Nat) : Int) % 2), .bool true, .int .i64 ((n : Nat) : Int), .int .i64 ((7 - n : Nat) : Int), .int .i64 ((s : Nat) : Int), .int .i64 ((7 - n : Nat) : Int), .int .i64 (((s : Nat) : Int) - ((7 - n : Nat) : Int)), .bool true, .bool true, .int .i64 ((s : Nat) : Int), .int .i64 ((7 - n : Nat) : Int), .int .i64 (((s : Nat) : Int) - ((7 - n : Nat) : Int)), .bool false, .bool false, (u21 34), (u21 35), (u21 36), (u21 37), (u21 38), (u21 39), (u21 40), (u21 41), (u21 42), (u21 43), undef], []⟩) (by kernel_rfl) ?_
            refine wp_cond_false (by kernel_rfl) ?_
            refine wp_skip ?_
            refine blk_normal ?_
            refine hK26 _ _ ?_
            try clear hK26 K26
            refine wp_frame (a' := ⟨#[.bool false, undef, .pointer (some ⟨g2, 0, none⟩), .pointer (some ⟨g8, 0, none⟩), .int .i64 ((zcnt (8 * s + (n + 1)) : Nat) : Int), .int .i64 ((s : Nat) : Int), .int .i64 ((n : Nat) : Int), .int .i64 ((7 - n : Nat) : Int), .bool false, undef, .int .i64 ((s : Nat) : Int), .bool true, (u14 12), (u14 13), .int .i64 ((n : Nat) : Int), .bool true, (u21 16), (u21 17), .int .i64 ((n : Nat) : Int), .int .i64 ((s : Nat) : Int), .int .i64 (((s : Nat) : Int) % 2), .bool true, .int .i64 ((n : Nat) : Int), .int .i64 ((7 - n : Nat) : Int), .int .i64 ((s : Nat) : Int), .int .i64 ((7 - n : Nat) : Int), .int .i64 (((s : Nat) : Int) - ((7 - n : Nat) : Int)), .bool true, .bool true, .int .i64 ((s : Nat) : Int), .int .i64 ((7 - n : Nat) : Int), .int .i64 (((s : Nat) : Int) - ((7 - n : Nat) : Int)), .bool false, .bool false, (u21 34), (u21 35), (u21 36), (u21 37), (u21 38), (u21 39), (u21 40), (u21 41), (u21 42), (u21 43), undef], []⟩) (by rw [← Nat.add_assoc (8 * s), hz.2 (by omega)] <;> kernel_rfl) ?_
            refine wl_region ?_
            refine st_val (.int .i64 ((n : Nat) : Int)) (by kernel_rfl) (by kernel_rfl) ?_
            refine st_val (.int .i64 (((n : Nat) : Int) + 1)) (by kernel_rfl) (i64_of (by omega) (by kernel_rfl)) ?_
            refine st_val (.int .i64 (((n : Nat) : Int) + 1)) (by kernel_rfl) (by kernel_rfl) ?_
            refine wl_nil ?_
            refine th_normal ?_
            exact ⟨_, by omega, (n + 1), (fun zz => Array.getD #[undef, undef, undef, undef, undef, undef, undef, .int .i64 ((7 - n : Nat) : Int), undef, undef, undef, undef, undef, undef, .int .i64 ((n : Nat) : Int), .bool true, .int .i64 ((n : Nat) : Int), .int .i64 (((n : Nat) : Int) + 1), .int .i64 ((n : Nat) : Int), .int .i64 ((s : Nat) : Int), .int .i64 (((s : Nat) : Int) % 2), .bool true, .int .i64 ((n : Nat) : Int), .int .i64 ((7 - n : Nat) : Int), .int .i64 ((s : Nat) : Int), .int .i64 ((7 - n : Nat) : Int), .int .i64 (((s : Nat) : Int) - ((7 - n : Nat) : Int)), .bool true, .bool true, .int .i64 ((s : Nat) : Int), .int .i64 ((7 - n : Nat) : Int), .int .i64 (((s : Nat) : Int) - ((7 - n : Nat) : Int)), .bool false, .bool false, (u21 34), (u21 35), (u21 36), (u21 37), (u21 38), (u21 39), (u21 40), (u21 41), (u21 42), (u21 43)] zz undef), ⟨by omega, (by rw [← Nat.add_assoc, hz.2 (by omega)]; exact M23)⟩, rfl, (by kernel_rfl)⟩
        ·
          refine st_val (.bool false) (by kernel_rfl) (bool_of (dec_f c27) (by kernel_rfl)) ?_
          refine st_val (.bool false) (by kernel_rfl) (by kernel_rfl) ?_
          refine st_skip (by kernel_rfl) ?_
          refine st_skip (by kernel_rfl) ?_
          refine st_skip (by kernel_rfl) ?_
          refine st_skip (by kernel_rfl) ?_
          refine st_val (.bool false) (by kernel_rfl) (by kernel_rfl) ?_
          refine wl_nil ?_
          refine hK30 _ _ ?_
          try clear hK30 K30
          refine wp_frame (a' := ⟨#[.bool false, undef, .pointer (some ⟨g2, 0, none⟩), .pointer (some ⟨g8, 0, none⟩), .int .i64 ((zcnt (8 * s + n) : Nat) : Int), .int .i64 ((s : Nat) : Int), .int .i64 ((n : Nat) : Int), .int .i64 ((7 - n : Nat) : Int), .bool false, undef, .int .i64 ((s : Nat) : Int), .bool true, (u14 12), (u14 13), .int .i64 ((n : Nat) : Int), .bool true, (u21 16), (u21 17), .int .i64 ((n : Nat) : Int), .int .i64 ((s : Nat) : Int), .int .i64 (((s : Nat) : Int) % 2), .bool true, .int .i64 ((n : Nat) : Int), .int .i64 ((7 - n : Nat) : Int), .int .i64 ((s : Nat) : Int), .int .i64 ((7 - n : Nat) : Int), .int .i64 (((s : Nat) : Int) - ((7 - n : Nat) : Int)), .bool false, .bool false, undef, undef, undef, undef, .bool false, (u21 34), (u21 35), (u21 36), (u21 37), (u21 38), (u21 39), (u21 40), (u21 41), (u21 42), (u21 43), undef], []⟩) (by kernel_rfl) ?_
          refine wp_cond_false (by kernel_rfl) ?_
          refine wp_skip ?_
          refine blk_normal ?_
          refine hK26 _ _ ?_
          try clear hK26 K26
          refine wp_frame (a' := ⟨#[.bool false, undef, .pointer (some ⟨g2, 0, none⟩), .pointer (some ⟨g8, 0, none⟩), .int .i64 ((zcnt (8 * s + (n + 1)) : Nat) : Int), .int .i64 ((s : Nat) : Int), .int .i64 ((n : Nat) : Int), .int .i64 ((7 - n : Nat) : Int), .bool false, undef, .int .i64 ((s : Nat) : Int), .bool true, (u14 12), (u14 13), .int .i64 ((n : Nat) : Int), .bool true, (u21 16), (u21 17), .int .i64 ((n : Nat) : Int), .int .i64 ((s : Nat) : Int), .int .i64 (((s : Nat) : Int) % 2), .bool true, .int .i64 ((n : Nat) : Int), .int .i64 ((7 - n : Nat) : Int), .int .i64 ((s : Nat) : Int), .int .i64 ((7 - n : Nat) : Int), .int .i64 (((s : Nat) : Int) - ((7 - n : Nat) : Int)), .bool false, .bool false, undef, undef, undef, undef, .bool false, (u21 34), (u21 35), (u21 36), (u21 37), (u21 38), (u21 39), (u21 40), (u21 41), (u21 42), (u21 43), undef], []⟩) (by rw [← Nat.add_assoc (8 * s), hz.2 (by omega)] <;> kernel_rfl) ?_
          refine wl_region ?_
          refine st_val (.int .i64 ((n : Nat) : Int)) (by kernel_rfl) (by kernel_rfl) ?_
          refine st_val (.int .i64 (((n : Nat) : Int) + 1)) (by kernel_rfl) (i64_of (by omega) (by kernel_rfl)) ?_
          refine st_val (.int .i64 (((n : Nat) : Int) + 1)) (by kernel_rfl) (by kernel_rfl) ?_
          refine wl_nil ?_
          refine th_normal ?_
          exact ⟨_, by omega, (n + 1), (fun zz => Array.getD #[undef, undef, undef, undef, undef, undef, undef, .int .i64 ((7 - n : Nat) : Int), undef, undef, undef, undef, undef, undef, .int .i64 ((n : Nat) : Int), .bool true, .int .i64 ((n : Nat) : Int), .int .i64 (((n : Nat) : Int) + 1), .int .i64 ((n : Nat) : Int), .int .i64 ((s : Nat) : Int), .int .i64 (((s : Nat) : Int) % 2), .bool true, .int .i64 ((n : Nat) : Int), .int .i64 ((7 - n : Nat) : Int), .int .i64 ((s : Nat) : Int), .int .i64 ((7 - n : Nat) : Int), .int .i64 (((s : Nat) : Int) - ((7 - n : Nat) : Int)), .bool false, .bool false, undef, undef, undef, undef, .bool false, (u21 34), (u21 35), (u21 36), (u21 37), (u21 38), (u21 39), (u21 40), (u21 41), (u21 42), (u21 43)] zz undef), ⟨by omega, (by rw [← Nat.add_assoc, hz.2 (by omega)]; exact M23)⟩, rfl, (by kernel_rfl)⟩
      ·
        refine st_val (.bool false) (by kernel_rfl) (bool_of (dec_f c21) (by kernel_rfl)) ?_
        refine wl_nil ?_
        refine hK29 _ _ ?_
        try clear hK29 K29
        refine wp_cond_false (by kernel_rfl) ?_
        refine wp_skip ?_
        refine hK28 _ _ ?_
        try clear hK28 K28
        refine wp_seq_k (fun K34 hK34 => ?_)
        have hz := z_facts (s := s) (n := n) (r := n) (by omega) (by omega) (by rw [if_neg (by omega)])
        refine wl_region ?_
        refine st_val (.int .i64 ((s : Nat) : Int)) (by kernel_rfl) (by kernel_rfl) ?_
        refine st_val (.int .i64 ((n : Nat) : Int)) (by kernel_rfl) (by kernel_rfl) ?_
        refine st_val (.int .i64 (((s : Nat) : Int) - ((n : Nat) : Int))) (by kernel_rfl) (i64_of (by omega) (by kernel_rfl)) ?_
        rcases Decidable.em ((((s : Nat) : Int) - ((n : Nat) : Int) : Int) ≥ 0) with c27 | c27
        ·
          refine st_val (.bool true) (by kernel_rfl) (bool_of (dec_t c27) (by kernel_rfl)) ?_
          refine st_val (.bool true) (by kernel_rfl) (by kernel_rfl) ?_
          refine st_val (.int .i64 ((s : Nat) : Int)) (by kernel_rfl) (by kernel_rfl) ?_
          refine st_val (.int .i64 ((n : Nat) : Int)) (by kernel_rfl) (by kernel_rfl) ?_
          refine st_val (.int .i64 (((s : Nat) : Int) - ((n : Nat) : Int))) (by kernel_rfl) (i64_of (by omega) (by kernel_rfl)) ?_
          rcases Decidable.em ((((s : Nat) : Int) - ((n : Nat) : Int) : Int) < 8) with c32 | c32
          ·
            refine st_val (.bool true) (by kernel_rfl) (bool_of (dec_t c32) (by kernel_rfl)) ?_
            refine st_val (.bool true) (by kernel_rfl) (by kernel_rfl) ?_
            refine wl_nil ?_
            refine hK34 _ _ ?_
            try clear hK34 K34
            refine wp_frame (a' := ⟨#[.bool false, undef, .pointer (some ⟨g2, 0, none⟩), .pointer (some ⟨g8, 0, none⟩), .int .i64 ((zcnt (8 * s + n) : Nat) : Int), .int .i64 ((s : Nat) : Int), .int .i64 ((n : Nat) : Int), .int .i64 ((n : Nat) : Int), .bool false, undef, .int .i64 ((s : Nat) : Int), .bool true, (u14 12), (u14 13), .int .i64 ((n : Nat) : Int), .bool true, (u21 16), (u21 17), .int .i64 ((n : Nat) : Int), .int .i64 ((s : Nat) : Int), .int .i64 (((s : Nat) : Int) % 2), .bool false, (u21 22), (u21 23), .int .i64 ((s : Nat) : Int), .int .i64 ((n : Nat) : Int), .int .i64 (((s : Nat) : Int) - ((n : Nat) : Int)), .bool true, .bool true, .int .i64 ((s : Nat) : Int), .int .i64 ((n : Nat) : Int), .int .i64 (((s : Nat) : Int) - ((n : Nat) : Int)), .bool true, .bool true, (u21 34), (u21 35), (u21 36), (u21 37), (u21 38), (u21 39), (u21 40), (u21 41), (u21 42), (u21 43), undef], []⟩) (by kernel_rfl) ?_
            refine wp_cond_true (by kernel_rfl) ?_
            refine wp_seq_k (fun K35 hK35 => ?_)
            have hz1 := hz.1 (by omega) (by omega)
            refine wl_region ?_
            refine st_val (.int .i64 ((zcnt (8 * s + n) : Nat) : Int)) (by kernel_rfl) (by kernel_rfl) ?_
            refine st_val (.int .i64 ((n : Nat) : Int)) (by kernel_rfl) (by kernel_rfl) ?_
            refine st_val (.int .i64 (8 * ((n : Nat) : Int))) (by kernel_rfl) (i64_of (by omega) (by kernel_rfl)) ?_
            refine st_val (.int .i64 ((s : Nat) : Int)) (by kernel_rfl) (by kernel_rfl) ?_
            refine st_val (.int .i64 ((8 * ((n : Nat) : Int)) + ((s : Nat) : Int))) (by kernel_rfl) (i64_of (by omega) (by kernel_rfl)) ?_
            refine st_val (.int .i64 ((n : Nat) : Int)) (by kernel_rfl) (by kernel_rfl) ?_
            refine st_val (.int .i64 ((8 * (n) + s - (n) : Nat) : Int)) (by kernel_rfl) (int_of (show ((8 * ((n : Nat) : Int)) + ((s : Nat) : Int)) - ((n : Nat) : Int) = ((8 * (n) + s - (n) : Nat) : Int) by omega) (i64_of (by omega) (by kernel_rfl))) ?_
            refine st_val (.pointer (some ⟨g8, zcnt (8 * s + n), none⟩)) (by kernel_rfl) (run_indexAddr 30 (.tmp 3) (.tmp 34) rfl ⟨g8, 0, none⟩ .i64 (zcnt (8 * s + n)) (by kernel_rfl) (by kernel_rfl) Try.underlying30 1 (by kernel_rfl) (by omega) ⟨g8, zcnt (8 * s + n), none⟩ (addr_at0 _ _)) ?_
            refine st_storeCell M23 0 rfl 3 (.tmp 41) (.tmp 40) (by rfl) (zcnt (8 * s + n)) (.int .i64 ((8 * (n) + s - (n) : Nat) : Int)) (iv ((tab 64 (fiTo (scL false) (zcnt (8 * s + n)))).set (zcnt (8 * s + n)) ((8 * (n) + s - (n) : Nat) : Int))) (by kernel_rfl) (by kernel_rfl) (by rw [iv_size, (tab_length _ _)]; omega) (by kernel_rfl) rfl (by kernel_rfl) (iv_set _ _ _) (by kernel_rfl) [(g8, .cells (iv ((tab 64 (fiTo (scL false) (zcnt (8 * s + n)))).set (zcnt (8 * s + n)) ((8 * (n) + s - (n) : Nat) : Int))) 30 (0, 0)), (g2, .cells (iv zeros) 30 (0, 0))] rfl ?_
            intro W36 M37
            refine wl_nil ?_
            refine hK35 _ _ ?_
            try clear hK35 K35
            refine wl_region ?_
            refine st_val (.int .i64 ((zcnt (8 * s + n) : Nat) : Int)) (by kernel_rfl) (by kernel_rfl) ?_
            refine st_val (.int .i64 ((zcnt (8 * s + n) + 1 : Nat) : Int)) (by kernel_rfl) (int_of (show ((zcnt (8 * s + n) : Nat) : Int) + 1 = ((zcnt (8 * s + n) + 1 : Nat) : Int) by omega) (i64_of (by omega) (by kernel_rfl))) ?_
            refine st_val (.int .i64 ((zcnt (8 * s + n) + 1 : Nat) : Int)) (by kernel_rfl) (by kernel_rfl) ?_
            refine wl_nil ?_
            refine blk_normal ?_
            refine hK26 _ _ ?_
            try clear hK26 K26
            refine wp_frame (a' := ⟨#[.bool false, undef, .pointer (some ⟨g2, 0, none⟩), .pointer (some ⟨g8, 0, none⟩), .int .i64 ((zcnt (8 * s + (n + 1)) : Nat) : Int), .int .i64 ((s : Nat) : Int), .int .i64 ((n : Nat) : Int), .int .i64 ((n : Nat) : Int), .bool false, undef, .int .i64 ((s : Nat) : Int), .bool true, (u14 12), (u14 13), .int .i64 ((n : Nat) : Int), .bool true, (u21 16), (u21 17), .int .i64 ((n : Nat) : Int), .int .i64 ((s : Nat) : Int), .int .i64 (((s : Nat) : Int) % 2), .bool false, (u21 22), (u21 23), .int .i64 ((s : Nat) : Int), .int .i64 ((n : Nat) : Int), .int .i64 (((s : Nat) : Int) - ((n : Nat) : Int)), .bool true, .bool true, .int .i64 ((s : Nat) : Int), .int .i64 ((n : Nat) : Int), .int .i64 (((s : Nat) : Int) - ((n : Nat) : Int)), .bool true, .bool true, .int .i64 ((zcnt (8 * s + n) : Nat) : Int), .int .i64 ((n : Nat) : Int), .int .i64 (8 * ((n : Nat) : Int)), .int .i64 ((s : Nat) : Int), .int .i64 ((8 * ((n : Nat) : Int)) + ((s : Nat) : Int)), .int .i64 ((n : Nat) : Int), .int .i64 ((8 * (n) + s - (n) : Nat) : Int), .pointer (some ⟨g8, zcnt (8 * s + n), none⟩), .int .i64 ((zcnt (8 * s + n) : Nat) : Int), .int .i64 ((zcnt (8 * s + n) + 1 : Nat) : Int), undef], []⟩) (by rw [← Nat.add_assoc (8 * s), (hz.1 (by omega) (by omega)).2.2] <;> kernel_rfl) ?_
            refine wl_region ?_
            refine st_val (.int .i64 ((n : Nat) : Int)) (by kernel_rfl) (by kernel_rfl) ?_
            refine st_val (.int .i64 (((n : Nat) : Int) + 1)) (by kernel_rfl) (i64_of (by omega) (by kernel_rfl)) ?_
            refine st_val (.int .i64 (((n : Nat) : Int) + 1)) (by kernel_rfl) (by kernel_rfl) ?_
            refine wl_nil ?_
            refine th_normal ?_
            exact ⟨_, by omega, (n + 1), (fun zz => Array.getD #[undef, undef, undef, undef, undef, undef, undef, .int .i64 ((n : Nat) : Int), undef, undef, undef, undef, undef, undef, .int .i64 ((n : Nat) : Int), .bool true, .int .i64 ((n : Nat) : Int), .int .i64 (((n : Nat) : Int) + 1), .int .i64 ((n : Nat) : Int), .int .i64 ((s : Nat) : Int), .int .i64 (((s : Nat) : Int) % 2), .bool false, (u21 22), (u21 23), .int .i64 ((s : Nat) : Int), .int .i64 ((n : Nat) : Int), .int .i64 (((s : Nat) : Int) - ((n : Nat) : Int)), .bool true, .bool true, .int .i64 ((s : Nat) : Int), .int .i64 ((n : Nat) : Int), .int .i64 (((s : Nat) : Int) - ((n : Nat) : Int)), .bool true, .bool true, .int .i64 ((zcnt (8 * s + n) : Nat) : Int), .int .i64 ((n : Nat) : Int), .int .i64 (8 * ((n : Nat) : Int)), .int .i64 ((s : Nat) : Int), .int .i64 ((8 * ((n : Nat) : Int)) + ((s : Nat) : Int)), .int .i64 ((n : Nat) : Int), .int .i64 ((8 * (n) + s - (n) : Nat) : Int), .pointer (some ⟨g8, zcnt (8 * s + n), none⟩), .int .i64 ((zcnt (8 * s + n) : Nat) : Int), .int .i64 ((zcnt (8 * s + n) + 1 : Nat) : Int)] zz undef), ⟨by omega, (by rw [← Nat.add_assoc, (hz.1 (by omega) (by omega)).2.2, ← fiTo_next, ← (hz.1 (by omega) (by omega)).2.1]; exact M37)⟩, rfl, (by kernel_rfl)⟩
          ·
            refine st_val (.bool false) (by kernel_rfl) (bool_of (dec_f c32) (by kernel_rfl)) ?_
            refine st_val (.bool false) (by kernel_rfl) (by kernel_rfl) ?_
            refine wl_nil ?_
            refine hK34 _ _ ?_
            try clear hK34 K34
            refine wp_frame (a' := ⟨#[.bool false, undef, .pointer (some ⟨g2, 0, none⟩), .pointer (some ⟨g8, 0, none⟩), .int .i64 ((zcnt (8 * s + n) : Nat) : Int), .int .i64 ((s : Nat) : Int), .int .i64 ((n : Nat) : Int), .int .i64 ((n : Nat) : Int), .bool false, undef, .int .i64 ((s : Nat) : Int), .bool true, (u14 12), (u14 13), .int .i64 ((n : Nat) : Int), .bool true, (u21 16), (u21 17), .int .i64 ((n : Nat) : Int), .int .i64 ((s : Nat) : Int), .int .i64 (((s : Nat) : Int) % 2), .bool false, (u21 22), (u21 23), .int .i64 ((s : Nat) : Int), .int .i64 ((n : Nat) : Int), .int .i64 (((s : Nat) : Int) - ((n : Nat) : Int)), .bool true, .bool true, .int .i64 ((s : Nat) : Int), .int .i64 ((n : Nat) : Int), .int .i64 (((s : Nat) : Int) - ((n : Nat) : Int)), .bool false, .bool false, (u21 34), (u21 35), (u21 36), (u21 37), (u21 38), (u21 39), (u21 40), (u21 41), (u21 42), (u21 43), undef], []⟩) (by kernel_rfl) ?_
            refine wp_cond_false (by kernel_rfl) ?_
            refine wp_skip ?_
            refine blk_normal ?_
            refine hK26 _ _ ?_
            try clear hK26 K26
            refine wp_frame (a' := ⟨#[.bool false, undef, .pointer (some ⟨g2, 0, none⟩), .pointer (some ⟨g8, 0, none⟩), .int .i64 ((zcnt (8 * s + (n + 1)) : Nat) : Int), .int .i64 ((s : Nat) : Int), .int .i64 ((n : Nat) : Int), .int .i64 ((n : Nat) : Int), .bool false, undef, .int .i64 ((s : Nat) : Int), .bool true, (u14 12), (u14 13), .int .i64 ((n : Nat) : Int), .bool true, (u21 16), (u21 17), .int .i64 ((n : Nat) : Int), .int .i64 ((s : Nat) : Int), .int .i64 (((s : Nat) : Int) % 2), .bool false, (u21 22), (u21 23), .int .i64 ((s : Nat) : Int), .int .i64 ((n : Nat) : Int), .int .i64 (((s : Nat) : Int) - ((n : Nat) : Int)), .bool true, .bool true, .int .i64 ((s : Nat) : Int), .int .i64 ((n : Nat) : Int), .int .i64 (((s : Nat) : Int) - ((n : Nat) : Int)), .bool false, .bool false, (u21 34), (u21 35), (u21 36), (u21 37), (u21 38), (u21 39), (u21 40), (u21 41), (u21 42), (u21 43), undef], []⟩) (by rw [← Nat.add_assoc (8 * s), hz.2 (by omega)] <;> kernel_rfl) ?_
            refine wl_region ?_
            refine st_val (.int .i64 ((n : Nat) : Int)) (by kernel_rfl) (by kernel_rfl) ?_
            refine st_val (.int .i64 (((n : Nat) : Int) + 1)) (by kernel_rfl) (i64_of (by omega) (by kernel_rfl)) ?_
            refine st_val (.int .i64 (((n : Nat) : Int) + 1)) (by kernel_rfl) (by kernel_rfl) ?_
            refine wl_nil ?_
            refine th_normal ?_
            exact ⟨_, by omega, (n + 1), (fun zz => Array.getD #[undef, undef, undef, undef, undef, undef, undef, .int .i64 ((n : Nat) : Int), undef, undef, undef, undef, undef, undef, .int .i64 ((n : Nat) : Int), .bool true, .int .i64 ((n : Nat) : Int), .int .i64 (((n : Nat) : Int) + 1), .int .i64 ((n : Nat) : Int), .int .i64 ((s : Nat) : Int), .int .i64 (((s : Nat) : Int) % 2), .bool false, (u21 22), (u21 23), .int .i64 ((s : Nat) : Int), .int .i64 ((n : Nat) : Int), .int .i64 (((s : Nat) : Int) - ((n : Nat) : Int)), .bool true, .bool true, .int .i64 ((s : Nat) : Int), .int .i64 ((n : Nat) : Int), .int .i64 (((s : Nat) : Int) - ((n : Nat) : Int)), .bool false, .bool false, (u21 34), (u21 35), (u21 36), (u21 37), (u21 38), (u21 39), (u21 40), (u21 41), (u21 42), (u21 43)] zz undef), ⟨by omega, (by rw [← Nat.add_assoc, hz.2 (by omega)]; exact M23)⟩, rfl, (by kernel_rfl)⟩
        ·
          refine st_val (.bool false) (by kernel_rfl) (bool_of (dec_f c27) (by kernel_rfl)) ?_
          refine st_val (.bool false) (by kernel_rfl) (by kernel_rfl) ?_
          refine st_skip (by kernel_rfl) ?_
          refine st_skip (by kernel_rfl) ?_
          refine st_skip (by kernel_rfl) ?_
          refine st_skip (by kernel_rfl) ?_
          refine st_val (.bool false) (by kernel_rfl) (by kernel_rfl) ?_
          refine wl_nil ?_
          refine hK34 _ _ ?_
          try clear hK34 K34
          refine wp_frame (a' := ⟨#[.bool false, undef, .pointer (some ⟨g2, 0, none⟩), .pointer (some ⟨g8, 0, none⟩), .int .i64 ((zcnt (8 * s + n) : Nat) : Int), .int .i64 ((s : Nat) : Int), .int .i64 ((n : Nat) : Int), .int .i64 ((n : Nat) : Int), .bool false, undef, .int .i64 ((s : Nat) : Int), .bool true, (u14 12), (u14 13), .int .i64 ((n : Nat) : Int), .bool true, (u21 16), (u21 17), .int .i64 ((n : Nat) : Int), .int .i64 ((s : Nat) : Int), .int .i64 (((s : Nat) : Int) % 2), .bool false, (u21 22), (u21 23), .int .i64 ((s : Nat) : Int), .int .i64 ((n : Nat) : Int), .int .i64 (((s : Nat) : Int) - ((n : Nat) : Int)), .bool false, .bool false, undef, undef, undef, undef, .bool false, (u21 34), (u21 35), (u21 36), (u21 37), (u21 38), (u21 39), (u21 40), (u21 41), (u21 42), (u21 43), undef], []⟩) (by kernel_rfl) ?_
          refine wp_cond_false (by kernel_rfl) ?_
          refine wp_skip ?_
          refine blk_normal ?_
          refine hK26 _ _ ?_
          try clear hK26 K26
          refine wp_frame (a' := ⟨#[.bool false, undef, .pointer (some ⟨g2, 0, none⟩), .pointer (some ⟨g8, 0, none⟩), .int .i64 ((zcnt (8 * s + (n + 1)) : Nat) : Int), .int .i64 ((s : Nat) : Int), .int .i64 ((n : Nat) : Int), .int .i64 ((n : Nat) : Int), .bool false, undef, .int .i64 ((s : Nat) : Int), .bool true, (u14 12), (u14 13), .int .i64 ((n : Nat) : Int), .bool true, (u21 16), (u21 17), .int .i64 ((n : Nat) : Int), .int .i64 ((s : Nat) : Int), .int .i64 (((s : Nat) : Int) % 2), .bool false, (u21 22), (u21 23), .int .i64 ((s : Nat) : Int), .int .i64 ((n : Nat) : Int), .int .i64 (((s : Nat) : Int) - ((n : Nat) : Int)), .bool false, .bool false, undef, undef, undef, undef, .bool false, (u21 34), (u21 35), (u21 36), (u21 37), (u21 38), (u21 39), (u21 40), (u21 41), (u21 42), (u21 43), undef], []⟩) (by rw [← Nat.add_assoc (8 * s), hz.2 (by omega)] <;> kernel_rfl) ?_
          refine wl_region ?_
          refine st_val (.int .i64 ((n : Nat) : Int)) (by kernel_rfl) (by kernel_rfl) ?_
          refine st_val (.int .i64 (((n : Nat) : Int) + 1)) (by kernel_rfl) (i64_of (by omega) (by kernel_rfl)) ?_
          refine st_val (.int .i64 (((n : Nat) : Int) + 1)) (by kernel_rfl) (by kernel_rfl) ?_
          refine wl_nil ?_
          refine th_normal ?_
          exact ⟨_, by omega, (n + 1), (fun zz => Array.getD #[undef, undef, undef, undef, undef, undef, undef, .int .i64 ((n : Nat) : Int), undef, undef, undef, undef, undef, undef, .int .i64 ((n : Nat) : Int), .bool true, .int .i64 ((n : Nat) : Int), .int .i64 (((n : Nat) : Int) + 1), .int .i64 ((n : Nat) : Int), .int .i64 ((s : Nat) : Int), .int .i64 (((s : Nat) : Int) % 2), .bool false, (u21 22), (u21 23), .int .i64 ((s : Nat) : Int), .int .i64 ((n : Nat) : Int), .int .i64 (((s : Nat) : Int) - ((n : Nat) : Int)), .bool false, .bool false, undef, undef, undef, undef, .bool false, (u21 34), (u21 35), (u21 36), (u21 37), (u21 38), (u21 39), (u21 40), (u21 41), (u21 42), (u21 43)] zz undef), ⟨by omega, (by rw [← Nat.add_assoc, hz.2 (by omega)]; exact M23)⟩, rfl, (by kernel_rfl)⟩
    ·
      refine st_val (.bool false) (by kernel_rfl) (bool_of (dec_f c15) (by kernel_rfl)) ?_
      refine wl_nil ?_
      refine hK25 _ _ ?_
      try clear hK25 K25
      refine wp_cond_false (by kernel_rfl) ?_
      refine wp_exit ?_
      refine th_exit ?_
      refine th_exit ?_
      refine blk_exit ?_
      refine blk_normal ?_
      refine hK19 _ _ ?_
      try clear hK19 K19
      refine wp_frame (a' := ⟨#[.bool false, undef, .pointer (some ⟨g2, 0, none⟩), .pointer (some ⟨g8, 0, none⟩), .int .i64 ((zcnt (8 * (s + 1)) : Nat) : Int), .int .i64 ((s : Nat) : Int), .int .i64 ((n : Nat) : Int), (u21 7), .bool false, undef, .int .i64 ((s : Nat) : Int), .bool true, (u14 12), (u14 13), .int .i64 ((n : Nat) : Int), .bool false, (u21 16), (u21 17), (u21 18), (u21 19), (u21 20), (u21 21), (u21 22), (u21 23), (u21 24), (u21 25), (u21 26), (u21 27), (u21 28), (u21 29), (u21 30), (u21 31), (u21 32), (u21 33), (u21 34), (u21 35), (u21 36), (u21 37), (u21 38), (u21 39), (u21 40), (u21 41), (u21 42), (u21 43), undef], []⟩) (by rw [show 8 * (s + 1) = 8 * s + n by omega] <;> kernel_rfl) ?_
      refine wl_region ?_
      refine st_val (.int .i64 ((s : Nat) : Int)) (by kernel_rfl) (by kernel_rfl) ?_
      refine st_val (.int .i64 (((s : Nat) : Int) + 1)) (by kernel_rfl) (i64_of (by omega) (by kernel_rfl)) ?_
      refine st_val (.int .i64 (((s : Nat) : Int) + 1)) (by kernel_rfl) (by kernel_rfl) ?_
      refine wl_nil ?_
      refine th_normal ?_
      exact ⟨_, by omega, (s + 1), (fun zz => Array.getD #[undef, undef, undef, undef, undef, undef, .int .i64 ((n : Nat) : Int), (u21 7), undef, undef, .int .i64 ((s : Nat) : Int), .bool true, .int .i64 ((s : Nat) : Int), .int .i64 (((s : Nat) : Int) + 1), .int .i64 ((n : Nat) : Int), .bool false, (u21 16), (u21 17), (u21 18), (u21 19), (u21 20), (u21 21), (u21 22), (u21 23), (u21 24), (u21 25), (u21 26), (u21 27), (u21 28), (u21 29), (u21 30), (u21 31), (u21 32), (u21 33), (u21 34), (u21 35), (u21 36), (u21 37), (u21 38), (u21 39), (u21 40), (u21 41), (u21 42), (u21 43)] zz undef), ⟨by omega, (by rw [show 8 * (s + 1) = 8 * s + n by omega]; exact M23)⟩, rfl, (by kernel_rfl)⟩
  ·
    refine st_val (.bool false) (by kernel_rfl) (bool_of (dec_f c11) (by kernel_rfl)) ?_
    refine wl_nil ?_
    refine hK18 _ _ ?_
    try clear hK18 K18
    refine wp_cond_false (by kernel_rfl) ?_
    refine wp_exit ?_
    refine th_exit ?_
    refine th_exit ?_
    refine blk_exit ?_
    refine hK12 _ _ ?_
    try clear hK12 K12
    refine wp_seq_k (fun K38 hK38 => ?_)
    have M39 : Mem NoS w W15 [(g8, .cells (iv (scL false)) 30 (0, 0)), (g2, .cells (iv zeros) 30 (0, 0))] := by
      have hh := M16; rw [show 8 * s = 120 by omega, z_end, fiTo_end (scL false) (scL_length _) 64 (by omega)] at hh; exact hh
    refine wl_region ?_
    refine st_val (.agg (iv (scL false))) (by kernel_rfl) (run_load_row 30 (.tmp 3) rfl g8 (by kernel_rfl) 30 (iv (scL false)) (0, 0) _ (M39.get 0 rfl) Try.underlying30 rfl (info64 _ (scL_length _))) ?_
    refine st_storeRow M39 1 rfl 30 (.tmp 2) (.tmp 44) (by rfl) (iv (scL false)) (by kernel_rfl) (by kernel_rfl) (info64 _ (scL_length _)) (iv_same (scL_length _) zeros_length) (iv_one _) (by kernel_rfl) [(g8, .cells (iv (scL false)) 30 (0, 0)), (g2, .cells (iv (scL false)) 30 (0, 0))] rfl ?_
    intro W40 M41
    refine wl_nil ?_
    refine hK38 _ _ ?_
    try clear hK38 K38
    refine wp_ret ?_
    exact doneRow 2 30 g2 30 (iv (scL false)) (0, 0) _ (by kernel_rfl) (by kernel_rfl) (M41.get 1 rfl) Try.underlying30 rfl (info64 _ (scL_length _)) (by kernel_rfl) ⟨rfl, M41.toBelow⟩
set_option maxHeartbeats 4000000 in
set_option maxRecDepth 100000 in
theorem intra_walk (w : World) : Calls Try.prog 36 #[] w fun e w' => e = .returned (.agg (bv intraL)) ∧ Below w.heap.size w w' := by
  refine calls_of_wp Try.func36 rfl ?_
  refine wp_frame (a' := ⟨#[undef, undef], []⟩) (by kernel_rfl) ?_
  have M0 : Mem NoS w w [] := Mem.start _ _
  refine wp_seq_k (fun K1 hK1 => ?_)
  refine wl_region ?_
  refine st_alloc M0 (.cells (bv zeros) 23 (0, 0)) (by kernel_rfl) (by kernel_rfl) ?_
  intro g2 W3 M4
  refine wl_nil ?_
  refine hK1 _ _ ?_
  try clear hK1 K1
  refine wp_seq_k (fun K5 hK5 => ?_)
  refine wl_region ?_
  refine st_val (.agg (bv intraL)) (by kernel_rfl) (by kernel_rfl) ?_
  refine st_storeRow M4 0 rfl 23 (.tmp 0) (.tmp 1) (by rfl) (bv intraL) (by kernel_rfl) (by kernel_rfl) (infoB64 _ intraL_length) (bv_same intraL_length zeros_length) (bv_one _) (by kernel_rfl) [(g2, .cells (bv intraL) 23 (0, 0))] rfl ?_
  intro W6 M7
  refine wl_nil ?_
  refine hK5 _ _ ?_
  try clear hK5 K5
  refine wp_ret ?_
  exact doneRow 0 23 g2 23 (bv intraL) (0, 0) _ (by kernel_rfl) (by kernel_rfl) (M7.get 0 rfl) Try.underlying23 rfl (infoB64 _ intraL_length) (by kernel_rfl) ⟨rfl, M7.toBelow⟩
set_option maxHeartbeats 4000000 in
set_option maxRecDepth 100000 in
theorem refIntra_walk (w : World) : Calls Try.prog 37 #[] w fun e w' => e = .returned (.agg (bv intraL)) ∧ Below w.heap.size w w' := by
  refine calls_of_wp Try.func37 rfl ?_
  refine wp_frame (a' := ⟨#[undef, undef], []⟩) (by kernel_rfl) ?_
  have M0 : Mem NoS w w [] := Mem.start _ _
  refine wp_seq_k (fun K1 hK1 => ?_)
  refine wl_region ?_
  refine st_alloc M0 (.cells (bv zeros) 23 (0, 0)) (by kernel_rfl) (by kernel_rfl) ?_
  intro g2 W3 M4
  refine wl_nil ?_
  refine hK1 _ _ ?_
  try clear hK1 K1
  refine wp_seq_k (fun K5 hK5 => ?_)
  refine wl_region ?_
  refine st_val (.agg (bv intraL)) (by kernel_rfl) (by kernel_rfl) ?_
  refine st_storeRow M4 0 rfl 23 (.tmp 0) (.tmp 1) (by rfl) (bv intraL) (by kernel_rfl) (by kernel_rfl) (infoB64 _ intraL_length) (bv_same intraL_length zeros_length) (bv_one _) (by kernel_rfl) [(g2, .cells (bv intraL) 23 (0, 0))] rfl ?_
  intro W6 M7
  refine wl_nil ?_
  refine hK5 _ _ ?_
  try clear hK5 K5
  refine wp_ret ?_
  exact doneRow 0 23 g2 23 (bv intraL) (0, 0) _ (by kernel_rfl) (by kernel_rfl) (M7.get 0 rfl) Try.underlying23 rfl (infoB64 _ intraL_length) (by kernel_rfl) ⟨rfl, M7.toBelow⟩
end Go.Proofs.Ytjclncmpfdfkfaa
