/- Valid rational numbers. -/
import Derived.Test.YtolfkaljbgpkhaaGw
import Derived.Test.YtolfkaljbgpkhaaU
namespace Go.Proofs.Ytolfkaljbgpkhaa
open Go.RowKit

/-- a valid rational number -/
def rV (num den : Int) : Bool := decide (1 ≤ den ∧ -9223372036854775807 ≤ num ∧ Nat.gcd num.natAbs den.natAbs = 1)
set_option maxHeartbeats 4000000 in
set_option maxRecDepth 100000 in
theorem gcd_walk (w : World) (x y : Nat) : Calls Try.prog 45 #[.int .u64 (x : Int), .int .u64 (y : Int)] w fun e w' => e = .returned (.int .u64 ((Nat.gcd x y : Nat) : Int)) ∧ Below w.heap.size w w' := by
  refine calls_of_wp Try.func45 rfl ?_
  refine wp_frame (a' := ⟨#[.int .u64 (x : Int), .int .u64 (y : Int), undef, undef, undef, undef, undef, undef, undef, undef, undef, undef], []⟩) (by kernel_rfl) ?_
  have M0 : Mem NoS w w [] := Mem.start _ _
  refine wp_seq_k (fun K1 hK1 => ?_)
  refine wl_region ?_
  refine st_val (.int .u64 0) (by kernel_rfl) (by kernel_rfl) ?_
  refine wl_nil ?_
  refine hK1 _ _ ?_
  try clear hK1 K1
  refine wp_seq_k (fun K2 hK2 => ?_)
  refine wp_block ?_
  refine wp_loop_ghost (fun gn a' w' => ∃ (p : Nat) (q : Nat) (u3 : Nat → Value), ((Nat.gcd p q = Nat.gcd x y) ∧ Mem NoS w w' []) ∧ gn = q + 1 ∧ a' = ⟨#[.int .u64 (p : Int), .int .u64 (q : Int), undef, undef, .int .u64 0, (u3 5), (u3 6), (u3 7), (u3 8), (u3 9), (u3 10), undef], []⟩) _ ⟨x, y, (fun zz => Array.getD #[.int .u64 (x : Int), .int .u64 (y : Int), undef, undef, .int .u64 0, undef, undef, undef, undef, undef, undef, undef] zz undef), ⟨rfl, M0⟩, rfl, (by kernel_rfl)⟩ ?_
  rintro gn _ W4 ⟨p, q, u3, ⟨hg, M5⟩, rfl, rfl⟩
  refine wp_seq_k (fun K6 hK6 => ?_)
  refine wp_seq_k (fun K7 hK7 => ?_)
  refine wl_region ?_
  refine st_val (.int .u64 (q : Int)) (by kernel_rfl) (by kernel_rfl) ?_
  rcases Decidable.em (((q : Int) : Int) = 0) with c6 | c6
  ·
    refine st_val (.bool false) (by kernel_rfl) (bool_of (neq_f c6) (by kernel_rfl)) ?_
    refine wl_nil ?_
    refine hK7 _ _ ?_
    try clear hK7 K7
    refine wp_cond_false (by kernel_rfl) ?_
    refine wp_exit ?_
    refine th_exit ?_
    refine th_exit ?_
    refine blk_exit ?_
    refine hK2 _ _ ?_
    try clear hK2 K2
    refine wp_seq_k (fun K8 hK8 => ?_)
    refine wl_region ?_
    refine st_val (.int .u64 (p : Int)) (by kernel_rfl) (by kernel_rfl) ?_
    refine st_val (.int .u64 (p : Int)) (by kernel_rfl) (by kernel_rfl) ?_
    refine wl_nil ?_
    refine hK8 _ _ ?_
    try clear hK8 K8
    refine wp_ret ?_
    exact done1 4 (.int .u64 (p : Int)) (by kernel_rfl) (by kernel_rfl) (by kernel_rfl) ⟨by rw [← hg, show q = 0 by omega, Nat.gcd_zero_right], M5.toBelow⟩
  ·
    refine st_val (.bool true) (by kernel_rfl) (bool_of (neq_t c6) (by kernel_rfl)) ?_
    refine wl_nil ?_
    refine hK7 _ _ ?_
    try clear hK7 K7
    refine wp_cond_true (by kernel_rfl) ?_
    refine wp_skip ?_
    refine hK6 _ _ ?_
    try clear hK6 K6
    refine wp_block ?_
    refine wl_seq 6 (fun w' => Mem NoS w w' []) (by decide) (by kernel_rfl) (by kernel_rfl) M5.drew ?_
    refine seq_run (v := .int .u64 (q : Int)) (by decide) (by kernel_rfl) (fun w' M' => (by kernel_rfl)) ?_
    refine seq_run (v := .int .u64 (p : Int)) (by decide) (by kernel_rfl) (fun w' M' => (by kernel_rfl)) ?_
    refine seq_run (v := .int .u64 (q : Int)) (by decide) (by kernel_rfl) (fun w' M' => (by kernel_rfl)) ?_
    refine seq_run (v := .int .u64 ((p % q : Nat) : Int)) (by decide) (by kernel_rfl) (fun w' M' => (run_value_bin .rem 75 75 (.tmp 8) (.tmp 9) rfl (.int .u64 (p : Int)) (.int .u64 (q : Int)) _ (by kernel_rfl) (by kernel_rfl) (by kernel_rfl) (bin_remU (by omega)))) ?_
    refine seq_run (v := .int .u64 (q : Int)) (by decide) (by kernel_rfl) (fun w' M' => (by kernel_rfl)) ?_
    refine seq_run (v := .int .u64 ((p % q : Nat) : Int)) (by decide) (by kernel_rfl) (fun w' M' => (by kernel_rfl)) ?_
    refine seq_end (by decide) ?_
    intro W9 M10
    refine wl_nil ?_
    refine blk_normal ?_
    refine th_normal ?_
    exact ⟨_, (by have := Nat.mod_lt p (show q > 0 by omega); omega), q, (p % q), (fun zz => Array.getD #[.int .u64 (q : Int), .int .u64 ((p % q : Nat) : Int), undef, undef, .int .u64 0, .int .u64 (q : Int), .bool true, .int .u64 (q : Int), .int .u64 (p : Int), .int .u64 (q : Int), .int .u64 ((p % q : Nat) : Int), undef] zz undef), ⟨((gcd_step p q).trans hg), M10⟩, rfl, (by kernel_rfl)⟩
set_option maxHeartbeats 4000000 in
set_option maxRecDepth 100000 in
theorem refGcd_walk (w : World) (x y : Nat) : Calls Try.prog 43 #[.int .u64 (x : Int), .int .u64 (y : Int)] w fun e w' => e = .returned (.int .u64 ((Nat.gcd x y : Nat) : Int)) ∧ Below w.heap.size w w' := by
  refine calls_of_wp Try.func43 rfl ?_
  refine wp_frame (a' := ⟨#[.int .u64 (x : Int), .int .u64 (y : Int), undef, undef, undef, undef, undef, undef, undef, undef, undef, undef], []⟩) (by kernel_rfl) ?_
  have M0 : Mem NoS w w [] := Mem.start _ _
  refine wp_seq_k (fun K1 hK1 => ?_)
  refine wl_region ?_
  refine st_val (.int .u64 0) (by kernel_rfl) (by kernel_rfl) ?_
  refine wl_nil ?_
  refine hK1 _ _ ?_
  try clear hK1 K1
  refine wp_seq_k (fun K2 hK2 => ?_)
  refine wp_block ?_
  refine wp_loop_ghost (fun gn a' w' => ∃ (p : Nat) (q : Nat) (u3 : Nat → Value), ((Nat.gcd p q = Nat.gcd x y) ∧ Mem NoS w w' []) ∧ gn = q + 1 ∧ a' = ⟨#[.int .u64 (p : Int), .int .u64 (q : Int), undef, undef, .int .u64 0, (u3 5), (u3 6), (u3 7), (u3 8), (u3 9), (u3 10), undef], []⟩) _ ⟨x, y, (fun zz => Array.getD #[.int .u64 (x : Int), .int .u64 (y : Int), undef, undef, .int .u64 0, undef, undef, undef, undef, undef, undef, undef] zz undef), ⟨rfl, M0⟩, rfl, (by kernel_rfl)⟩ ?_
  rintro gn _ W4 ⟨p, q, u3, ⟨hg, M5⟩, rfl, rfl⟩
  refine wp_seq_k (fun K6 hK6 => ?_)
  refine wp_seq_k (fun K7 hK7 => ?_)
  refine wl_region ?_
  refine st_val (.int .u64 (q : Int)) (by kernel_rfl) (by kernel_rfl) ?_
  rcases Decidable.em (((q : Int) : Int) = 0) with c6 | c6
  ·
    refine st_val (.bool false) (by kernel_rfl) (bool_of (neq_f c6) (by kernel_rfl)) ?_
    refine wl_nil ?_
    refine hK7 _ _ ?_
    try clear hK7 K7
    refine wp_cond_false (by kernel_rfl) ?_
    refine wp_exit ?_
    refine th_exit ?_
    refine th_exit ?_
    refine blk_exit ?_
    refine hK2 _ _ ?_
    try clear hK2 K2
    refine wp_seq_k (fun K8 hK8 => ?_)
    refine wl_region ?_
    refine st_val (.int .u64 (p : Int)) (by kernel_rfl) (by kernel_rfl) ?_
    refine st_val (.int .u64 (p : Int)) (by kernel_rfl) (by kernel_rfl) ?_
    refine wl_nil ?_
    refine hK8 _ _ ?_
    try clear hK8 K8
    refine wp_ret ?_
    exact done1 4 (.int .u64 (p : Int)) (by kernel_rfl) (by kernel_rfl) (by kernel_rfl) ⟨by rw [← hg, show q = 0 by omega, Nat.gcd_zero_right], M5.toBelow⟩
  ·
    refine st_val (.bool true) (by kernel_rfl) (bool_of (neq_t c6) (by kernel_rfl)) ?_
    refine wl_nil ?_
    refine hK7 _ _ ?_
    try clear hK7 K7
    refine wp_cond_true (by kernel_rfl) ?_
    refine wp_skip ?_
    refine hK6 _ _ ?_
    try clear hK6 K6
    refine wp_block ?_
    refine wl_seq 6 (fun w' => Mem NoS w w' []) (by decide) (by kernel_rfl) (by kernel_rfl) M5.drew ?_
    refine seq_run (v := .int .u64 (q : Int)) (by decide) (by kernel_rfl) (fun w' M' => (by kernel_rfl)) ?_
    refine seq_run (v := .int .u64 (p : Int)) (by decide) (by kernel_rfl) (fun w' M' => (by kernel_rfl)) ?_
    refine seq_run (v := .int .u64 (q : Int)) (by decide) (by kernel_rfl) (fun w' M' => (by kernel_rfl)) ?_
    refine seq_run (v := .int .u64 ((p % q : Nat) : Int)) (by decide) (by kernel_rfl) (fun w' M' => (run_value_bin .rem 75 75 (.tmp 8) (.tmp 9) rfl (.int .u64 (p : Int)) (.int .u64 (q : Int)) _ (by kernel_rfl) (by kernel_rfl) (by kernel_rfl) (bin_remU (by omega)))) ?_
    refine seq_run (v := .int .u64 (q : Int)) (by decide) (by kernel_rfl) (fun w' M' => (by kernel_rfl)) ?_
    refine seq_run (v := .int .u64 ((p % q : Nat) : Int)) (by decide) (by kernel_rfl) (fun w' M' => (by kernel_rfl)) ?_
    refine seq_end (by decide) ?_
    intro W9 M10
    refine wl_nil ?_
    refine blk_normal ?_
    refine th_normal ?_
    exact ⟨_, (by have := Nat.mod_lt p (show q > 0 by omega); omega), q, (p % q), (fun zz => Array.getD #[.int .u64 (q : Int), .int .u64 ((p % q : Nat) : Int), undef, undef, .int .u64 0, .int .u64 (q : Int), .bool true, .int .u64 (q : Int), .int .u64 (p : Int), .int .u64 (q : Int), .int .u64 ((p % q : Nat) : Int), undef] zz undef), ⟨((gcd_step p q).trans hg), M10⟩, rfl, (by kernel_rfl)⟩
set_option maxHeartbeats 4000000 in
set_option maxRecDepth 100000 in
theorem abs_walk (w : World) (x : Int) (h : -9223372036854775808 ≤ x ∧ x ≤ 9223372036854775807) : Calls Try.prog 46 #[.int .i64 x] w fun e w' => e = .returned (.int .u64 ((x.natAbs : Nat) : Int)) ∧ Below w.heap.size w w' := by
  refine calls_of_wp Try.func46 rfl ?_
  refine wp_frame (a' := ⟨#[.int .i64 x, undef, undef, undef, undef, undef, undef, undef, undef, undef], []⟩) (by kernel_rfl) ?_
  have M0 : Mem NoS w w [] := Mem.start _ _
  refine wp_seq_k (fun K1 hK1 => ?_)
  refine wl_region ?_
  refine st_val (.int .u64 0) (by kernel_rfl) (by kernel_rfl) ?_
  refine wl_nil ?_
  refine hK1 _ _ ?_
  try clear hK1 K1
  refine wp_seq_k (fun K2 hK2 => ?_)
  refine wp_seq_k (fun K3 hK3 => ?_)
  refine wl_region ?_
  refine st_val (.int .i64 x) (by kernel_rfl) (by kernel_rfl) ?_
  rcases Decidable.em ((x : Int) < 0) with c4 | c4
  ·
    refine st_val (.bool true) (by kernel_rfl) (bool_of (dec_t c4) (by kernel_rfl)) ?_
    refine wl_nil ?_
    refine hK3 _ _ ?_
    try clear hK3 K3
    refine wp_cond_true (by kernel_rfl) ?_
    refine wp_seq_k (fun K4 hK4 => ?_)
    refine wl_region ?_
    refine st_val (.int .i64 x) (by kernel_rfl) (by kernel_rfl) ?_
    refine st_val (.int .u64 (x + 18446744073709551616)) (by kernel_rfl) (int_of (wrap_u64_neg (by omega)) (by kernel_rfl)) ?_
    refine st_val (.int .u64 (-x)) (by kernel_rfl) (int_of (show IntKind.u64.wrap (0 - (x + 18446744073709551616)) = -x by rw [Int.zero_sub, wrap_u64_negneg (by omega)]) (by kernel_rfl)) ?_
    refine st_val (.int .u64 (-x)) (by kernel_rfl) (by kernel_rfl) ?_
    refine wl_nil ?_
    refine hK4 _ _ ?_
    try clear hK4 K4
    refine wp_ret ?_
    refine th_ret ?_
    exact done1 2 (.int .u64 (-x)) (by kernel_rfl) (by kernel_rfl) (by kernel_rfl) ⟨by rw [show ((x.natAbs : Nat) : Int) = -x by omega], M0.toBelow⟩
  ·
    refine st_val (.bool false) (by kernel_rfl) (bool_of (dec_f c4) (by kernel_rfl)) ?_
    refine wl_nil ?_
    refine hK3 _ _ ?_
    try clear hK3 K3
    refine wp_cond_false (by kernel_rfl) ?_
    refine wp_skip ?_
    refine hK2 _ _ ?_
    try clear hK2 K2
    refine wp_seq_k (fun K5 hK5 => ?_)
    refine wl_region ?_
    refine st_val (.int .i64 x) (by kernel_rfl) (by kernel_rfl) ?_
    refine st_val (.int .u64 x) (by kernel_rfl) (int_of (wrap_u64 (by omega)) (by kernel_rfl)) ?_
    refine st_val (.int .u64 x) (by kernel_rfl) (by kernel_rfl) ?_
    refine wl_nil ?_
    refine hK5 _ _ ?_
    try clear hK5 K5
    refine wp_ret ?_
    exact done1 2 (.int .u64 x) (by kernel_rfl) (by kernel_rfl) (by kernel_rfl) ⟨by rw [show ((x.natAbs : Nat) : Int) = x by omega], M0.toBelow⟩
set_option maxHeartbeats 4000000 in
set_option maxRecDepth 100000 in
theorem mag_walk (w : World) (x : Int) (h : -9223372036854775808 ≤ x ∧ x ≤ 9223372036854775807) : Calls Try.prog 44 #[.int .i64 x] w fun e w' => e = .returned (.int .u64 ((x.natAbs : Nat) : Int)) ∧ Below w.heap.size w w' := by
  refine calls_of_wp Try.func44 rfl ?_
  refine wp_frame (a' := ⟨#[.int .i64 x, undef, undef, undef, undef, undef, undef, undef, undef, undef, undef, undef], []⟩) (by kernel_rfl) ?_
  have M0 : Mem NoS w w [] := Mem.start _ _
  refine wp_seq_k (fun K1 hK1 => ?_)
  refine wl_region ?_
  refine st_val (.int .u64 0) (by kernel_rfl) (by kernel_rfl) ?_
  refine wl_nil ?_
  refine hK1 _ _ ?_
  try clear hK1 K1
  refine wp_seq_k (fun K2 hK2 => ?_)
  refine wp_seq_k (fun K3 hK3 => ?_)
  refine wl_region ?_
  refine st_val (.int .i64 x) (by kernel_rfl) (by kernel_rfl) ?_
  rcases Decidable.em ((x : Int) < 0) with c4 | c4
  ·
    refine st_val (.bool true) (by kernel_rfl) (bool_of (dec_t c4) (by kernel_rfl)) ?_
    refine wl_nil ?_
    refine hK3 _ _ ?_
    try clear hK3 K3
    refine wp_cond_true (by kernel_rfl) ?_
    refine wp_seq_k (fun K4 hK4 => ?_)
    refine wl_region ?_
    refine st_val (.int .i64 x) (by kernel_rfl) (by kernel_rfl) ?_
    refine st_val (.int .i64 (x + 1)) (by kernel_rfl) (i64_of (by omega) (by kernel_rfl)) ?_
    refine st_val (.int .i64 (-(x + 1))) (by kernel_rfl) (int_of (show (0 : Int) - (x + 1) = -(x + 1) by omega) (i64_of (by omega) (by kernel_rfl))) ?_
    refine st_val (.int .u64 (-(x + 1))) (by kernel_rfl) (int_of (wrap_u64 (by omega)) (by kernel_rfl)) ?_
    refine st_val (.int .u64 ((-(x + 1)) + 1)) (by kernel_rfl) (u64_of (by omega) (by kernel_rfl)) ?_
    refine st_val (.int .u64 ((-(x + 1)) + 1)) (by kernel_rfl) (by kernel_rfl) ?_
    refine wl_nil ?_
    refine hK4 _ _ ?_
    try clear hK4 K4
    refine wp_ret ?_
    refine th_ret ?_
    exact done1 2 (.int .u64 ((-(x + 1)) + 1)) (by kernel_rfl) (by kernel_rfl) (by kernel_rfl) ⟨by rw [show ((x.natAbs : Nat) : Int) = (-(x + 1)) + 1 by omega], M0.toBelow⟩
  ·
    refine st_val (.bool false) (by kernel_rfl) (bool_of (dec_f c4) (by kernel_rfl)) ?_
    refine wl_nil ?_
    refine hK3 _ _ ?_
    try clear hK3 K3
    refine wp_cond_false (by kernel_rfl) ?_
    refine wp_skip ?_
    refine hK2 _ _ ?_
    try clear hK2 K2
    refine wp_seq_k (fun K5 hK5 => ?_)
    refine wl_region ?_
    refine st_val (.int .i64 x) (by kernel_rfl) (by kernel_rfl) ?_
    refine st_val (.int .u64 x) (by kernel_rfl) (int_of (wrap_u64 (by omega)) (by kernel_rfl)) ?_
    refine st_val (.int .u64 x) (by kernel_rfl) (by kernel_rfl) ?_
    refine wl_nil ?_
    refine hK5 _ _ ?_
    try clear hK5 K5
    refine wp_ret ?_
    exact done1 2 (.int .u64 x) (by kernel_rfl) (by kernel_rfl) (by kernel_rfl) ⟨by rw [show ((x.natAbs : Nat) : Int) = x by omega], M0.toBelow⟩
set_option maxHeartbeats 4000000 in
set_option maxRecDepth 100000 in
theorem rval_walk (w : World) (num den : Int) (hn : -9223372036854775808 ≤ num ∧ num ≤ 9223372036854775807) (hd : -9223372036854775808 ≤ den ∧ den ≤ 9223372036854775807) : Calls Try.prog 41 #[.agg #[.int .i64 num, .int .i64 den]] w fun e w' => e = .returned (.bool (rV num den)) ∧ Below w.heap.size w w' := by
  refine calls_of_wp Try.func41 rfl ?_
  refine wp_frame (a' := ⟨#[.agg #[.int .i64 num, .int .i64 den], undef, undef, undef, undef, undef, undef, undef, undef, undef, undef, undef, undef, undef, undef, undef, undef, undef, undef, undef, undef], []⟩) (by kernel_rfl) ?_
  have M0 : Mem NoS w w [] := Mem.start _ _
  refine wp_seq_k (fun K1 hK1 => ?_)
  refine wl_region ?_
  refine st_alloc M0 (.cells #[.int .i64 num, .int .i64 den] 23 (0, 0)) (by kernel_rfl) (by kernel_rfl) ?_
  intro g2 W3 M4
  refine st_val (.bool false) (by kernel_rfl) (by kernel_rfl) ?_
  refine wl_nil ?_
  refine hK1 _ _ ?_
  try clear hK1 K1
  refine wp_seq_k (fun K5 hK5 => ?_)
  refine wl_seq 19 (fun w' => Mem NoS w w' [(g2, .cells #[.int .i64 num, .int .i64 den] 23 (0, 0))]) (by decide) (by kernel_rfl) (by kernel_rfl) M4.drew ?_
  refine seq_run (v := .pointer (some ⟨g2, 1, none⟩)) (by decide) (by kernel_rfl) (fun w' M' => (by kernel_rfl)) ?_
  refine seq_run (v := .int .i64 den) (by decide) (by kernel_rfl) (fun w' M' => (run_load_cell 2 (.tmp 3) rfl ⟨g2, 1, none⟩ (by kernel_rfl) _ (M'.cell 0 rfl 1 _ rfl) (by kernel_rfl))) ?_
  rcases Decidable.em ((den : Int) ≥ 1) with c5 | c5
  ·
    refine seq_run (v := .bool true) (by decide) (by kernel_rfl) (fun w' M' => (bool_of (dec_t c5) (by kernel_rfl))) ?_
    refine seq_run (v := .bool true) (by decide) (by kernel_rfl) (fun w' M' => (by kernel_rfl)) ?_
    refine seq_run (v := .pointer (some ⟨g2, 0, none⟩)) (by decide) (by kernel_rfl) (fun w' M' => (by kernel_rfl)) ?_
    refine seq_run (v := .int .i64 num) (by decide) (by kernel_rfl) (fun w' M' => (run_load_cell 2 (.tmp 7) rfl ⟨g2, 0, none⟩ (by kernel_rfl) _ (M'.cell 0 rfl 0 _ rfl) (by kernel_rfl))) ?_
    rcases Decidable.em ((num : Int) ≥ -9223372036854775807) with c9 | c9
    ·
      refine seq_run (v := .bool true) (by decide) (by kernel_rfl) (fun w' M' => (bool_of (dec_t c9) (by kernel_rfl))) ?_
      refine seq_run (v := .bool true) (by decide) (by kernel_rfl) (fun w' M' => (by kernel_rfl)) ?_
      refine seq_run (v := .bool true) (by decide) (by kernel_rfl) (fun w' M' => (by kernel_rfl)) ?_
      refine seq_run (v := .pointer (some ⟨g2, 0, none⟩)) (by decide) (by kernel_rfl) (fun w' M' => (by kernel_rfl)) ?_
      refine seq_run (v := .int .i64 num) (by decide) (by kernel_rfl) (fun w' M' => (run_load_cell 2 (.tmp 12) rfl ⟨g2, 0, none⟩ (by kernel_rfl) _ (M'.cell 0 rfl 0 _ rfl) (by kernel_rfl))) ?_
      refine seq_call (v := .int .u64 ((num.natAbs : Nat) : Int)) (f := 46) (args := #[.int .i64 num]) (by decide) (by kernel_rfl) (fun w' M' => (run_value_call 46 #[(Operand.tmp 13)] _ rfl Try.func46 (by kernel_rfl) (by kernel_rfl) _ (by kernel_rfl))) (fun w' M' => callB_mem M' (abs_walk w' num hn)) ?_
      refine seq_run (v := .pointer (some ⟨g2, 1, none⟩)) (by decide) (by kernel_rfl) (fun w' M' => (by kernel_rfl)) ?_
      refine seq_run (v := .int .i64 den) (by decide) (by kernel_rfl) (fun w' M' => (run_load_cell 2 (.tmp 15) rfl ⟨g2, 1, none⟩ (by kernel_rfl) _ (M'.cell 0 rfl 1 _ rfl) (by kernel_rfl))) ?_
      refine seq_run (v := .int .u64 ((den.natAbs : Nat) : Int)) (by decide) (by kernel_rfl) (fun w' M' => (int_of (show IntKind.u64.wrap den = ((den.natAbs : Nat) : Int) by rw [wrap_u64 (by omega)]; omega) (by kernel_rfl))) ?_
      refine seq_call (v := .int .u64 ((Nat.gcd num.natAbs den.natAbs : Nat) : Int)) (f := 45) (args := #[.int .u64 ((num.natAbs : Nat) : Int), .int .u64 ((den.natAbs : Nat) : Int)]) (by decide) (by kernel_rfl) (fun w' M' => (run_value_call 45 #[(Operand.tmp 14), (Operand.tmp 17)] _ rfl Try.func45 (by kernel_rfl) (by kernel_rfl) _ (by kernel_rfl))) (fun w' M' => callB_mem M' (gcd_walk w' num.natAbs den.natAbs)) ?_
      rcases Decidable.em ((((Nat.gcd num.natAbs den.natAbs : Nat) : Int) : Int) = 1) with c19 | c19
      ·
        refine seq_run (v := .bool true) (by decide) (by kernel_rfl) (fun w' M' => (bool_of (dec_t c19) (by kernel_rfl))) ?_
        refine seq_run (v := .bool true) (by decide) (by kernel_rfl) (fun w' M' => (by kernel_rfl)) ?_
        refine seq_run (v := .bool true) (by decide) (by kernel_rfl) (fun w' M' => (by kernel_rfl)) ?_
        refine seq_end (by decide) ?_
        intro W6 M7
        refine wl_nil ?_
        refine hK5 _ _ ?_
        try clear hK5 K5
        refine wp_frame (a' := ⟨#[.agg #[.int .i64 num, .int .i64 den], .pointer (some ⟨g2, 0, none⟩), .bool true, .pointer (some ⟨g2, 1, none⟩), .int .i64 den, .bool true, .bool true, .pointer (some ⟨g2, 0, none⟩), .int .i64 num, .bool true, .bool true, .bool true, .pointer (some ⟨g2, 0, none⟩), .int .i64 num, .int .u64 ((num.natAbs : Nat) : Int), .pointer (some ⟨g2, 1, none⟩), .int .i64 den, .int .u64 ((den.natAbs : Nat) : Int), .int .u64 ((Nat.gcd num.natAbs den.natAbs : Nat) : Int), .bool true, .bool true], []⟩) (by kernel_rfl) ?_
        refine wp_ret ?_
        exact done1 2 (.bool true) (by kernel_rfl) (by kernel_rfl) (by kernel_rfl) ⟨by rw [show rV num den = true from decide_eq_true ⟨by omega, by omega, by omega⟩], M7.toBelow⟩
      ·
        refine seq_run (v := .bool false) (by decide) (by kernel_rfl) (fun w' M' => (bool_of (dec_f c19) (by kernel_rfl))) ?_
        refine seq_run (v := .bool false) (by decide) (by kernel_rfl) (fun w' M' => (by kernel_rfl)) ?_
        refine seq_run (v := .bool false) (by decide) (by kernel_rfl) (fun w' M' => (by kernel_rfl)) ?_
        refine seq_end (by decide) ?_
        intro W8 M9
        refine wl_nil ?_
        refine hK5 _ _ ?_
        try clear hK5 K5
        refine wp_frame (a' := ⟨#[.agg #[.int .i64 num, .int .i64 den], .pointer (some ⟨g2, 0, none⟩), .bool false, .pointer (some ⟨g2, 1, none⟩), .int .i64 den, .bool true, .bool true, .pointer (some ⟨g2, 0, none⟩), .int .i64 num, .bool true, .bool true, .bool true, .pointer (some ⟨g2, 0, none⟩), .int .i64 num, .int .u64 ((num.natAbs : Nat) : Int), .pointer (some ⟨g2, 1, none⟩), .int .i64 den, .int .u64 ((den.natAbs : Nat) : Int), .int .u64 ((Nat.gcd num.natAbs den.natAbs : Nat) : Int), .bool false, .bool false], []⟩) (by kernel_rfl) ?_
        refine wp_ret ?_
        exact done1 2 (.bool false) (by kernel_rfl) (by kernel_rfl) (by kernel_rfl) ⟨by rw [show rV num den = false from decide_eq_false (fun h => by omega)], M9.toBelow⟩
    ·
      refine seq_run (v := .bool false) (by decide) (by kernel_rfl) (fun w' M' => (bool_of (dec_f c9) (by kernel_rfl))) ?_
      refine seq_run (v := .bool false) (by decide) (by kernel_rfl) (fun w' M' => (by kernel_rfl)) ?_
      refine seq_run (v := .bool false) (by decide) (by kernel_rfl) (fun w' M' => (by kernel_rfl)) ?_
      refine seq_skip (by decide) (by kernel_rfl) ?_
      refine seq_skip (by decide) (by kernel_rfl) ?_
      refine seq_skip (by decide) (by kernel_rfl) ?_
      refine seq_skip (by decide) (by kernel_rfl) ?_
      refine seq_skip (by decide) (by kernel_rfl) ?_
      refine seq_skip (by decide) (by kernel_rfl) ?_
      refine seq_skip (by decide) (by kernel_rfl) ?_
      refine seq_skip (by decide) (by kernel_rfl) ?_
      refine seq_run (v := .bool false) (by decide) (by kernel_rfl) (fun w' M' => (by kernel_rfl)) ?_
      refine seq_run (v := .bool false) (by decide) (by kernel_rfl) (fun w' M' => (by kernel_rfl)) ?_
      refine seq_end (by decide) ?_
      intro W10 M11
      refine wl_nil ?_
      refine hK5 _ _ ?_
      try clear hK5 K5
      refine wp_frame (a' := ⟨#[.agg #[.int .i64 num, .int .i64 den], .pointer (some ⟨g2, 0, none⟩), .bool false, .pointer (some ⟨g2, 1, none⟩), .int .i64 den, .bool true, .bool true, .pointer (some ⟨g2, 0, none⟩), .int .i64 num, .bool false, .bool false, .bool false, undef, undef, undef, undef, undef, undef, undef, undef, .bool false], []⟩) (by kernel_rfl) ?_
      refine wp_ret ?_
      exact done1 2 (.bool false) (by kernel_rfl) (by kernel_rfl) (by kernel_rfl) ⟨by rw [show rV num den = false from decide_eq_false (fun h => by omega)], M11.toBelow⟩
  ·
    refine seq_run (v := .bool false) (by decide) (by kernel_rfl) (fun w' M' => (bool_of (dec_f c5) (by kernel_rfl))) ?_
    refine seq_run (v := .bool false) (by decide) (by kernel_rfl) (fun w' M' => (by kernel_rfl)) ?_
    refine seq_skip (by decide) (by kernel_rfl) ?_
    refine seq_skip (by decide) (by kernel_rfl) ?_
    refine seq_skip (by decide) (by kernel_rfl) ?_
    refine seq_run (v := .bool false) (by decide) (by kernel_rfl) (fun w' M' => (by kernel_rfl)) ?_
    refine seq_run (v := .bool false) (by decide) (by kernel_rfl) (fun w' M' => (by kernel_rfl)) ?_
    refine seq_skip (by decide) (by kernel_rfl) ?_
    refine seq_skip (by decide) (by kernel_rfl) ?_
    refine seq_skip (by decide) (by kernel_rfl) ?_
    refine seq_skip (by decide) (by kernel_rfl) ?_
    refine seq_skip (by decide) (by kernel_rfl) ?_
    refine seq_skip (by decide) (by kernel_rfl) ?_
    refine seq_skip (by decide) (by kernel_rfl) ?_
    refine seq_skip (by decide) (by kernel_rfl) ?_
    refine seq_run (v := .bool false) (by decide) (by kernel_rfl) (fun w' M' => (by kernel_rfl)) ?_
    refine seq_run (v := .bool false) (by decide) (by kernel_rfl) (fun w' M' => (by kernel_rfl)) ?_
    refine seq_end (by decide) ?_
    intro W12 M13
    refine wl_nil ?_
    refine hK5 _ _ ?_
    try clear hK5 K5
    refine wp_frame (a' := ⟨#[.agg #[.int .i64 num, .int .i64 den], .pointer (some ⟨g2, 0, none⟩), .bool false, .pointer (some ⟨g2, 1, none⟩), .int .i64 den, .bool false, .bool false, undef, undef, undef, .bool false, .bool false, undef, undef, undef, undef, undef, undef, undef, undef, .bool false], []⟩) (by kernel_rfl) ?_
    refine wp_ret ?_
    exact done1 2 (.bool false) (by kernel_rfl) (by kernel_rfl) (by kernel_rfl) ⟨by rw [show rV num den = false from decide_eq_false (fun h => by omega)], M13.toBelow⟩
set_option maxHeartbeats 4000000 in
set_option maxRecDepth 100000 in
theorem refRval_walk (w : World) (num den : Int) (hn : -9223372036854775808 ≤ num ∧ num ≤ 9223372036854775807) (hd : -9223372036854775808 ≤ den ∧ den ≤ 9223372036854775807) : Calls Try.prog 39 #[.agg #[.int .i64 num, .int .i64 den]] w fun e w' => e = .returned (.bool (rV num den)) ∧ Below w.heap.size w w' := by
  refine calls_of_wp Try.func39 rfl ?_
  refine wp_frame (a' := ⟨#[.agg #[.int .i64 num, .int .i64 den], undef, undef, undef, undef, undef, undef, undef, undef, undef, undef, undef, undef, undef, undef, undef, undef, undef, undef, undef, undef], []⟩) (by kernel_rfl) ?_
  have M0 : Mem NoS w w [] := Mem.start _ _
  refine wp_seq_k (fun K1 hK1 => ?_)
  refine wl_region ?_
  refine st_alloc M0 (.cells #[.int .i64 num, .int .i64 den] 23 (0, 0)) (by kernel_rfl) (by kernel_rfl) ?_
  intro g2 W3 M4
  refine st_val (.bool false) (by kernel_rfl) (by kernel_rfl) ?_
  refine wl_nil ?_
  refine hK1 _ _ ?_
  try clear hK1 K1
  refine wp_seq_k (fun K5 hK5 => ?_)
  refine wl_seq 19 (fun w' => Mem NoS w w' [(g2, .cells #[.int .i64 num, .int .i64 den] 23 (0, 0))]) (by decide) (by kernel_rfl) (by kernel_rfl) M4.drew ?_
  refine seq_run (v := .pointer (some ⟨g2, 1, none⟩)) (by decide) (by kernel_rfl) (fun w' M' => (by kernel_rfl)) ?_
  refine seq_run (v := .int .i64 den) (by decide) (by kernel_rfl) (fun w' M' => (run_load_cell 2 (.tmp 3) rfl ⟨g2, 1, none⟩ (by kernel_rfl) _ (M'.cell 0 rfl 1 _ rfl) (by kernel_rfl))) ?_
  rcases Decidable.em ((den : Int) ≥ 1) with c5 | c5
  ·
    refine seq_run (v := .bool true) (by decide) (by kernel_rfl) (fun w' M' => (bool_of (dec_t c5) (by kernel_rfl))) ?_
    refine seq_run (v := .bool true) (by decide) (by kernel_rfl) (fun w' M' => (by kernel_rfl)) ?_
    refine seq_run (v := .pointer (some ⟨g2, 0, none⟩)) (by decide) (by kernel_rfl) (fun w' M' => (by kernel_rfl)) ?_
    refine seq_run (v := .int .i64 num) (by decide) (by kernel_rfl) (fun w' M' => (run_load_cell 2 (.tmp 7) rfl ⟨g2, 0, none⟩ (by kernel_rfl) _ (M'.cell 0 rfl 0 _ rfl) (by kernel_rfl))) ?_
    rcases Decidable.em ((num : Int) ≥ -9223372036854775807) with c9 | c9
    ·
      refine seq_run (v := .bool true) (by decide) (by kernel_rfl) (fun w' M' => (bool_of (dec_t c9) (by kernel_rfl))) ?_
      refine seq_run (v := .bool true) (by decide) (by kernel_rfl) (fun w' M' => (by kernel_rfl)) ?_
      refine seq_run (v := .bool true) (by decide) (by kernel_rfl) (fun w' M' => (by kernel_rfl)) ?_
      refine seq_run (v := .pointer (some ⟨g2, 0, none⟩)) (by decide) (by kernel_rfl) (fun w' M' => (by kernel_rfl)) ?_
      refine seq_run (v := .int .i64 num) (by decide) (by kernel_rfl) (fun w' M' => (run_load_cell 2 (.tmp 12) rfl ⟨g2, 0, none⟩ (by kernel_rfl) _ (M'.cell 0 rfl 0 _ rfl) (by kernel_rfl))) ?_
      refine seq_call (v := .int .u64 ((num.natAbs : Nat) : Int)) (f := 44) (args := #[.int .i64 num]) (by decide) (by kernel_rfl) (fun w' M' => (run_value_call 44 #[(Operand.tmp 13)] _ rfl Try.func44 (by kernel_rfl) (by kernel_rfl) _ (by kernel_rfl))) (fun w' M' => callB_mem M' (mag_walk w' num hn)) ?_
      refine seq_run (v := .pointer (some ⟨g2, 1, none⟩)) (by decide) (by kernel_rfl) (fun w' M' => (by kernel_rfl)) ?_
      refine seq_run (v := .int .i64 den) (by decide) (by kernel_rfl) (fun w' M' => (run_load_cell 2 (.tmp 15) rfl ⟨g2, 1, none⟩ (by kernel_rfl) _ (M'.cell 0 rfl 1 _ rfl) (by kernel_rfl))) ?_
      refine seq_run (v := .int .u64 ((den.natAbs : Nat) : Int)) (by decide) (by kernel_rfl) (fun w' M' => (int_of (show IntKind.u64.wrap den = ((den.natAbs : Nat) : Int) by rw [wrap_u64 (by omega)]; omega) (by kernel_rfl))) ?_
      refine seq_call (v := .int .u64 ((Nat.gcd num.natAbs den.natAbs : Nat) : Int)) (f := 43) (args := #[.int .u64 ((num.natAbs : Nat) : Int), .int .u64 ((den.natAbs : Nat) : Int)]) (by decide) (by kernel_rfl) (fun w' M' => (run_value_call 43 #[(Operand.tmp 14), (Operand.tmp 17)] _ rfl Try.func43 (by kernel_rfl) (by kernel_rfl) _ (by kernel_rfl))) (fun w' M' => callB_mem M' (refGcd_walk w' num.natAbs den.natAbs)) ?_
      rcases Decidable.em ((((Nat.gcd num.natAbs den.natAbs : Nat) : Int) : Int) = 1) with c19 | c19
      ·
        refine seq_run (v := .bool true) (by decide) (by kernel_rfl) (fun w' M' => (bool_of (dec_t c19) (by kernel_rfl))) ?_
        refine seq_run (v := .bool true) (by decide) (by kernel_rfl) (fun w' M' => (by kernel_rfl)) ?_
        refine seq_run (v := .bool true) (by decide) (by kernel_rfl) (fun w' M' => (by kernel_rfl)) ?_
        refine seq_end (by decide) ?_
        intro W6 M7
        refine wl_nil ?_
        refine hK5 _ _ ?_
        try clear hK5 K5
        refine wp_frame (a' := ⟨#[.agg #[.int .i64 num, .int .i64 den], .pointer (some ⟨g2, 0, none⟩), .bool true, .pointer (some ⟨g2, 1, none⟩), .int .i64 den, .bool true, .bool true, .pointer (some ⟨g2, 0, none⟩), .int .i64 num, .bool true, .bool true, .bool true, .pointer (some ⟨g2, 0, none⟩), .int .i64 num, .int .u64 ((num.natAbs : Nat) : Int), .pointer (some ⟨g2, 1, none⟩), .int .i64 den, .int .u64 ((den.natAbs : Nat) : Int), .int .u64 ((Nat.gcd num.natAbs den.natAbs : Nat) : Int), .bool true, .bool true], []⟩) (by kernel_rfl) ?_
        refine wp_ret ?_
        exact done1 2 (.bool true) (by kernel_rfl) (by kernel_rfl) (by kernel_rfl) ⟨by rw [show rV num den = true from decide_eq_true ⟨by omega, by omega, by omega⟩], M7.toBelow⟩
      ·
        refine seq_run (v := .bool false) (by decide) (by kernel_rfl) (fun w' M' => (bool_of (dec_f c19) (by kernel_rfl))) ?_
        refine seq_run (v := .bool false) (by decide) (by kernel_rfl) (fun w' M' => (by kernel_rfl)) ?_
        refine seq_run (v := .bool false) (by decide) (by kernel_rfl) (fun w' M' => (by kernel_rfl)) ?_
        refine seq_end (by decide) ?_
        intro W8 M9
        refine wl_nil ?_
        refine hK5 _ _ ?_
        try clear hK5 K5
        refine wp_frame (a' := ⟨#[.agg #[.int .i64 num, .int .i64 den], .pointer (some ⟨g2, 0, none⟩), .bool false, .pointer (some ⟨g2, 1, none⟩), .int .i64 den, .bool true, .bool true, .pointer (some ⟨g2, 0, none⟩), .int .i64 num, .bool true, .bool true, .bool true, .pointer (some ⟨g2, 0, none⟩), .int .i64 num, .int .u64 ((num.natAbs : Nat) : Int), .pointer (some ⟨g2, 1, none⟩), .int .i64 den, .int .u64 ((den.natAbs : Nat) : Int), .int .u64 ((Nat.gcd num.natAbs den.natAbs : Nat) : Int), .bool false, .bool false], []⟩) (by kernel_rfl) ?_
        refine wp_ret ?_
        exact done1 2 (.bool false) (by kernel_rfl) (by kernel_rfl) (by kernel_rfl) ⟨by rw [show rV num den = false from decide_eq_false (fun h => by omega)], M9.toBelow⟩
    ·
      refine seq_run (v := .bool false) (by decide) (by kernel_rfl) (fun w' M' => (bool_of (dec_f c9) (by kernel_rfl))) ?_
      refine seq_run (v := .bool false) (by decide) (by kernel_rfl) (fun w' M' => (by kernel_rfl)) ?_
      refine seq_run (v := .bool false) (by decide) (by kernel_rfl) (fun w' M' => (by kernel_rfl)) ?_
      refine seq_skip (by decide) (by kernel_rfl) ?_
      refine seq_skip (by decide) (by kernel_rfl) ?_
      refine seq_skip (by decide) (by kernel_rfl) ?_
      refine seq_skip (by decide) (by kernel_rfl) ?_
      refine seq_skip (by decide) (by kernel_rfl) ?_
      refine seq_skip (by decide) (by kernel_rfl) ?_
      refine seq_skip (by decide) (by kernel_rfl) ?_
      refine seq_skip (by decide) (by kernel_rfl) ?_
      refine seq_run (v := .bool false) (by decide) (by kernel_rfl) (fun w' M' => (by kernel_rfl)) ?_
      refine seq_run (v := .bool false) (by decide) (by kernel_rfl) (fun w' M' => (by kernel_rfl)) ?_
      refine seq_end (by decide) ?_
      intro W10 M11
      refine wl_nil ?_
      refine hK5 _ _ ?_
      try clear hK5 K5
      refine wp_frame (a' := ⟨#[.agg #[.int .i64 num, .int .i64 den], .pointer (some ⟨g2, 0, none⟩), .bool false, .pointer (some ⟨g2, 1, none⟩), .int .i64 den, .bool true, .bool true, .pointer (some ⟨g2, 0, none⟩), .int .i64 num, .bool false, .bool false, .bool false, undef, undef, undef, undef, undef, undef, undef, undef, .bool false], []⟩) (by kernel_rfl) ?_
      refine wp_ret ?_
      exact done1 2 (.bool false) (by kernel_rfl) (by kernel_rfl) (by kernel_rfl) ⟨by rw [show rV num den = false from decide_eq_false (fun h => by omega)], M11.toBelow⟩
  ·
    refine seq_run (v := .bool false) (by decide) (by kernel_rfl) (fun w' M' => (bool_of (dec_f c5) (by kernel_rfl))) ?_
    refine seq_run (v := .bool false) (by decide) (by kernel_rfl) (fun w' M' => (by kernel_rfl)) ?_
    refine seq_skip (by decide) (by kernel_rfl) ?_
    refine seq_skip (by decide) (by kernel_rfl) ?_
    refine seq_skip (by decide) (by kernel_rfl) ?_
    refine seq_run (v := .bool false) (by decide) (by kernel_rfl) (fun w' M' => (by kernel_rfl)) ?_
    refine seq_run (v := .bool false) (by decide) (by kernel_rfl) (fun w' M' => (by kernel_rfl)) ?_
    refine seq_skip (by decide) (by kernel_rfl) ?_
    refine seq_skip (by decide) (by kernel_rfl) ?_
    refine seq_skip (by decide) (by kernel_rfl) ?_
    refine seq_skip (by decide) (by kernel_rfl) ?_
    refine seq_skip (by decide) (by kernel_rfl) ?_
    refine seq_skip (by decide) (by kernel_rfl) ?_
    refine seq_skip (by decide) (by kernel_rfl) ?_
    refine seq_skip (by decide) (by kernel_rfl) ?_
    refine seq_run (v := .bool false) (by decide) (by kernel_rfl) (fun w' M' => (by kernel_rfl)) ?_
    refine seq_run (v := .bool false) (by decide) (by kernel_rfl) (fun w' M' => (by kernel_rfl)) ?_
    refine seq_end (by decide) ?_
    intro W12 M13
    refine wl_nil ?_
    refine hK5 _ _ ?_
    try clear hK5 K5
    refine wp_frame (a' := ⟨#[.agg #[.int .i64 num, .int .i64 den], .pointer (some ⟨g2, 0, none⟩), .bool false, .pointer (some ⟨g2, 1, none⟩), .int .i64 den, .bool false, .bool false, undef, undef, undef, .bool false, .bool false, undef, undef, undef, undef, undef, undef, undef, undef, .bool false], []⟩) (by kernel_rfl) ?_
    refine wp_ret ?_
    exact done1 2 (.bool false) (by kernel_rfl) (by kernel_rfl) (by kernel_rfl) ⟨by rw [show rV num den = false from decide_eq_false (fun h => by omega)], M13.toBelow⟩
end Go.Proofs.Ytolfkaljbgpkhaa
