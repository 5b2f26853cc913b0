/- The reference's Inverse is walked. -/
import Derived.Test.YtpjhehpgpfomjaaRfw
import Derived.Test.YtpjhehpgpfomjaaIst
import Derived.Test.YtpjhehpgpfomjaaRn
namespace Go.Proofs.Ytpjhehpgpfomjaa
open Go.RowKit

theorem bnrm_nat {n : Nat} (h : n < 8) : bnrm (n : Int) = nrm n := by
  unfold bnrm
  rw [if_pos (by omega)]
  rfl
theorem nrm_ne {n : Nat} (h : n < 8) : nrm n ≠ 0 := by rcases nrm_in n h with h | h | h <;> rw [h] <;> decide
theorem nrm_quo' (i : Nat) (h : i < 8) : Int.tdiv 739840 (nrm i) = sc i := by
  have h2 : ((List.range 8).all fun p => decide (Int.tdiv 739840 (nrm p) = sc p)) = true := by decide +kernel
  rw [List.all_eq_true] at h2
  exact of_decide_eq_true (h2 i (List.mem_range.2 h))
theorem nrm_quo_w {n : Nat} (h : n < 8) : IntKind.i64.wrap (Int.tdiv 739840 (nrm n)) = sc n := by
  rw [nrm_quo' n h]
  apply i64_wrap
  rcases sc_in n h with h | h | h <;> rw [h] <;> decide
theorem cl_ref (v : Int) : max (-2097152) (min v 2097152) = cl v := by unfold cl; omega
theorem iw_step1 (xs : List Int) (a b c : Nat) (hb : b < 8) : (tab 64 (part2 (R2 xs) (8 * a + b) (dot (s1 xs (8 * a + b)) c))).set (8 * a + b) (dot (s1 xs (8 * a + b)) c + tm c b * cl (xs.getD (8 * a + c) 0)) = tab 64 (part2 (R2 xs) (8 * a + b) (dot (s1 xs (8 * a + b)) (c + 1))) := by
  rw [part2_set]
  have ht : s1 xs (8 * a + b) c = tm c b * cl (xs.getD (8 * a + c) 0) := by
    unfold s1
    rw [show (8 * a + b) % 8 = b by omega, show (8 * a + b) / 8 = a by omega]
  rw [← ht]; rfl
theorem iw_b1 (xs : List Int) (a b c : Nat) (hb : b < 8) (hc : c < 8) : -58183385088 ≤ tm c b * cl (xs.getD (8 * a + c) 0) ∧ tm c b * cl (xs.getD (8 * a + c) 0) ≤ 58183385088 := by
  have := s1_le xs (8 * a + b) c hc
  unfold s1 at this
  rw [show (8 * a + b) % 8 = b by omega, show (8 * a + b) / 8 = a by omega] at this
  exact this
/-- the second pass, a product -/
def s2x (xs : List Int) (e f h : Nat) : Int := tm h e * R2 xs (8 * h + f)
theorem s2x_eq (xs : List Int) (e f h : Nat) (hf : f < 8) : s2x xs e f h = s2 xs (8 * e + f) h := by
  unfold s2x s2
  rw [show (8 * e + f) % 8 = f by omega, show (8 * e + f) / 8 = e by omega]
theorem s2x_le (xs : List Int) (e f h : Nat) (he : e < 8) (hf : f < 8) (hh : h < 8) : -12913918687051776 ≤ tm h e * R2 xs (8 * h + f) ∧ tm h e * R2 xs (8 * h + f) ≤ 12913918687051776 := by
  have := s2_le xs (8 * e + f) h hh
  rw [← s2x_eq xs e f h hf] at this
  exact this
theorem s2x_dot (xs : List Int) (e f h : Nat) (he : e < 8) (hf : f < 8) (hh : h ≤ 8) : -103311349496414208 ≤ dot (s2x xs e f) h ∧ dot (s2x xs e f) h ≤ 103311349496414208 := by
  have := S2_le xs (8 * e + f) h hh
  rw [dot_congr h (g := s2 xs (8 * e + f)) (fun i _ => s2x_eq xs e f i hf)]
  exact this
theorem tdiv_in {s : Int} (h : -9223372036854775808 < s ∧ s ≤ 9223372036854775807) : -9223372036854775808 ≤ s.tdiv 547363225600 ∧ s.tdiv 547363225600 ≤ 9223372036854775807 := by
  have h1 : (s.tdiv 547363225600).natAbs ≤ s.natAbs := by rw [Int.natAbs_tdiv]; exact Nat.div_le_self _ _
  omega
theorem tdiv_small {s : Int} (h : -1000000000000000000 < s ∧ s ≤ 1000000000000000000) : -1000000000000000000 ≤ s.tdiv 547363225600 ∧ s.tdiv 547363225600 ≤ 1000000000000000000 := by
  have h1 : (s.tdiv 547363225600).natAbs ≤ s.natAbs := by rw [Int.natAbs_tdiv]; exact Nat.div_le_self _ _
  omega
theorem tdiv_floor (s : Int) : (s.tmod 547363225600 < 0 → s.tdiv 547363225600 - 1 = s / 547363225600) ∧ (¬ s.tmod 547363225600 < 0 → s.tdiv 547363225600 = s / 547363225600) := by
  rcases Int.le_total 0 s with h | h
  · rw [Int.tdiv_eq_ediv_of_nonneg h, Int.tmod_eq_emod_of_nonneg h]
    omega
  · obtain ⟨t, rfl⟩ : ∃ t, s = -t := ⟨-s, by omega⟩
    rw [Int.neg_tdiv, Int.neg_tmod, Int.tdiv_eq_ediv_of_nonneg (by omega), Int.tmod_eq_emod_of_nonneg (by omega)]
    omega
theorem x2_of (xs : List Int) (e f h : Nat) (hf : f < 8) (hh : h = 8) : (273681612800 + dot (s2x xs e f) h) / 547363225600 = X2 xs (8 * e + f) := by
  subst hh
  rw [dot_congr 8 (g := s2 xs (8 * e + f)) (fun i _ => s2x_eq xs e f i hf)]
  unfold X2
  show _ = (2 * dot (s2 xs (8 * e + f)) 8 + 547363225600) / 1094726451200
  omega
theorem x2_neg (xs : List Int) (e f h : Nat) (hf : f < 8) (hh : h = 8) (c : (273681612800 + dot (s2x xs e f) h).tmod 547363225600 < 0) : (273681612800 + dot (s2x xs e f) h).tdiv 547363225600 - 1 = X2 xs (8 * e + f) := by
  rw [(tdiv_floor _).1 c, x2_of xs e f h hf hh]
theorem x2_pos (xs : List Int) (e f h : Nat) (hf : f < 8) (hh : h = 8) (c : ¬ (273681612800 + dot (s2x xs e f) h).tmod 547363225600 < 0) : (273681612800 + dot (s2x xs e f) h).tdiv 547363225600 = X2 xs (8 * e + f) := by
  rw [(tdiv_floor _).2 c, x2_of xs e f h hf hh]

set_option maxHeartbeats 4000000 in
set_option maxRecDepth 100000 in
theorem refInverse_walk (w : World) (xs : List Int) (hl : xs.length = 64) : Calls Try.prog 17 #[.agg (iv xs)] w fun e w' => e = .returned (.agg (iv (inv xs))) ∧ Below w.heap.size w w' := by
  refine calls_of_wp Try.func17 rfl ?_
  refine wp_frame (a' := ⟨#[.agg (iv xs), undef, undef, undef, undef, undef, undef, undef, undef, undef, undef, undef, undef, undef, undef, undef, undef, undef, undef, undef, undef, undef, undef, undef, undef, undef, undef, undef, undef, undef, undef, undef, undef, undef, undef, undef, undef, undef, undef, undef, undef, undef, undef, undef, undef, undef, undef, undef, undef, undef, undef, undef, undef, undef, undef, undef, undef, undef, undef, undef, undef, undef, undef, undef, undef, undef, undef, undef, undef, undef, undef, undef, undef, undef, undef, undef, undef, undef, undef, undef, undef, undef, undef, undef, undef, undef, undef, undef, undef, undef, undef, undef, undef, undef], []⟩) (by kernel_rfl) ?_
  have M0 : Mem NoS w w [] := Mem.start _ _
  refine wp_seq_k (fun K1 hK1 => ?_)
  refine wl_region ?_
  refine st_alloc M0 (.cells (iv xs) 23 (0, 0)) (by kernel_rfl) (by kernel_rfl) ?_
  intro g2 W3 M4
  refine st_alloc M4 (.cells (iv zeros) 23 (0, 0)) (by kernel_rfl) (by kernel_rfl) ?_
  intro g5 W6 M7
  refine wl_nil ?_
  refine hK1 _ _ ?_
  try clear hK1 K1
  refine wp_seq_k (fun K8 hK8 => ?_)
  refine wl_region ?_
  refine st_alloc M7 (.cells (iv zeros) 23 (0, 0)) (by kernel_rfl) (by kernel_rfl) ?_
  intro g9 W10 M11
  refine st_alloc M11 (.cells (iv zeros) 23 (0, 0)) (by kernel_rfl) (by kernel_rfl) ?_
  intro g12 W13 M14
  refine wl_nil ?_
  refine hK8 _ _ ?_
  try clear hK8 K8
  refine wp_seq_k (fun K15 hK15 => ?_)
  refine wp_seq_k (fun K16 hK16 => ?_)
  refine wl_region ?_
  refine st_val (.int .i64 0) (by kernel_rfl) (by kernel_rfl) ?_
  refine wl_nil ?_
  refine hK16 _ _ ?_
  try clear hK16 K16
  refine wp_block ?_
  refine wp_loop_ghost (fun gn a' w' => ∃ (a : Nat) (u17 : Nat → Value), ((a ≤ 8) ∧ Mem NoS w w' [(g12, .cells (iv zeros) 23 (0, 0)), (g9, .cells (iv (tab 64 (part2 (R2 xs) (8 * a) 0))) 23 (0, 0)), (g5, .cells (iv zeros) 23 (0, 0)), (g2, .cells (iv xs) 23 (0, 0))]) ∧ gn = 8 - a ∧ a' = ⟨#[.agg (iv xs), .pointer (some ⟨g2, 0, none⟩), .pointer (some ⟨g5, 0, none⟩), .pointer (some ⟨g9, 0, none⟩), .pointer (some ⟨g12, 0, none⟩), .int .i64 (a : Int), (u17 6), (u17 7), undef, undef, undef, undef, (u17 12), (u17 13), (u17 14), (u17 15), (u17 16), (u17 17), (u17 18), (u17 19), (u17 20), (u17 21), (u17 22), (u17 23), (u17 24), (u17 25), (u17 26), (u17 27), (u17 28), (u17 29), (u17 30), (u17 31), (u17 32), (u17 33), (u17 34), (u17 35), (u17 36), (u17 37), (u17 38), (u17 39), (u17 40), (u17 41), (u17 42), (u17 43), (u17 44), (u17 45), (u17 46), undef, undef, undef, undef, undef, undef, undef, undef, undef, undef, undef, undef, undef, undef, undef, undef, undef, undef, undef, undef, undef, undef, undef, undef, undef, undef, undef, undef, undef, undef, undef, undef, undef, undef, undef, undef, undef, undef, undef, undef, undef, undef, undef, undef, undef, undef, undef], []⟩) _ ⟨0, (fun zz => Array.getD #[.agg (iv xs), .pointer (some ⟨g2, 0, none⟩), .pointer (some ⟨g5, 0, none⟩), .pointer (some ⟨g9, 0, none⟩), .pointer (some ⟨g12, 0, none⟩), .int .i64 0, undef, undef, undef, undef, undef, undef, undef, undef, undef, undef, undef, undef, undef, undef, undef, undef, undef, undef, undef, undef, undef, undef, undef, undef, undef, undef, undef, undef, undef, undef, undef, undef, undef, undef, undef, undef, undef, undef, undef, undef, undef, undef, undef, undef, undef, undef, undef, undef, undef, undef, undef, undef, undef, undef, undef, undef, undef, undef, undef, undef, undef, undef, undef, undef, undef, undef, undef, undef, undef, undef, undef, undef, undef, undef, undef, undef, undef, undef, undef, undef, undef, undef, undef, undef, undef, undef, undef, undef] zz undef), ⟨by omega, (by rw [fw_zero]; exact M14)⟩, rfl, (by kernel_rfl)⟩ ?_
  rintro gn _ W18 ⟨a, u17, ⟨ra, M19⟩, rfl, rfl⟩
  refine wp_seq_k (fun K20 hK20 => ?_)
  refine wp_seq_k (fun K21 hK21 => ?_)
  refine wl_region ?_
  refine st_val (.int .i64 (a : Int)) (by kernel_rfl) (by kernel_rfl) ?_
  rcases Decidable.em (((a : Int) : Int) < 8) with c13 | c13
  ·
    refine st_val (.bool true) (by kernel_rfl) (bool_of (dec_t c13) (by kernel_rfl)) ?_
    refine wl_nil ?_
    refine hK21 _ _ ?_
    try clear hK21 K21
    refine wp_cond_true (by kernel_rfl) ?_
    refine wp_skip ?_
    refine hK20 _ _ ?_
    try clear hK20 K20
    refine wp_seq_k (fun K22 hK22 => ?_)
    refine wp_block ?_
    refine wp_seq_k (fun K23 hK23 => ?_)
    refine wl_region ?_
    refine st_val (.int .i64 0) (by kernel_rfl) (by kernel_rfl) ?_
    refine wl_nil ?_
    refine hK23 _ _ ?_
    try clear hK23 K23
    refine wp_block ?_
    refine wp_loop_ghost (fun gn a' w' => ∃ (b : Nat) (u24 : Nat → Value), ((b ≤ 8) ∧ Mem NoS w w' [(g12, .cells (iv zeros) 23 (0, 0)), (g9, .cells (iv (tab 64 (part2 (R2 xs) (8 * a + b) 0))) 23 (0, 0)), (g5, .cells (iv zeros) 23 (0, 0)), (g2, .cells (iv xs) 23 (0, 0))]) ∧ gn = 8 - b ∧ a' = ⟨#[.agg (iv xs), .pointer (some ⟨g2, 0, none⟩), .pointer (some ⟨g5, 0, none⟩), .pointer (some ⟨g9, 0, none⟩), .pointer (some ⟨g12, 0, none⟩), .int .i64 (a : Int), .int .i64 (b : Int), (u24 7), undef, undef, undef, undef, .int .i64 (a : Int), .bool true, (u17 14), (u17 15), (u24 16), (u24 17), (u24 18), (u24 19), (u24 20), (u24 21), (u24 22), (u24 23), (u24 24), (u24 25), (u24 26), (u24 27), (u24 28), (u24 29), (u24 30), (u24 31), (u24 32), (u24 33), (u24 34), (u24 35), (u24 36), (u24 37), (u24 38), (u24 39), (u24 40), (u24 41), (u24 42), (u24 43), (u24 44), (u24 45), (u24 46), undef, undef, undef, undef, undef, undef, undef, undef, undef, undef, undef, undef, undef, undef, undef, undef, undef, undef, undef, undef, undef, undef, undef, undef, undef, undef, undef, undef, undef, undef, undef, undef, undef, undef, undef, undef, undef, undef, undef, undef, undef, undef, undef, undef, undef, undef, undef], []⟩) _ ⟨0, (fun zz => Array.getD #[.agg (iv xs), .pointer (some ⟨g2, 0, none⟩), .pointer (some ⟨g5, 0, none⟩), .pointer (some ⟨g9, 0, none⟩), .pointer (some ⟨g12, 0, none⟩), .int .i64 (a : Int), .int .i64 0, (u17 7), undef, undef, undef, undef, .int .i64 (a : Int), .bool true, (u17 14), (u17 15), (u17 16), (u17 17), (u17 18), (u17 19), (u17 20), (u17 21), (u17 22), (u17 23), (u17 24), (u17 25), (u17 26), (u17 27), (u17 28), (u17 29), (u17 30), (u17 31), (u17 32), (u17 33), (u17 34), (u17 35), (u17 36), (u17 37), (u17 38), (u17 39), (u17 40), (u17 41), (u17 42), (u17 43), (u17 44), (u17 45), (u17 46), undef, undef, undef, undef, undef, undef, undef, undef, undef, undef, undef, undef, undef, undef, undef, undef, undef, undef, undef, undef, undef, undef, undef, undef, undef, undef, undef, undef, undef, undef, undef, undef, undef, undef, undef, undef, undef, undef, undef, undef, undef, undef, undef, undef, undef, undef, undef] zz undef), ⟨by omega, M19⟩, rfl, (by kernel_rfl)⟩ ?_
    rintro gn _ W25 ⟨b, u24, ⟨rb, M26⟩, rfl, rfl⟩
    refine wp_seq_k (fun K27 hK27 => ?_)
    refine wp_seq_k (fun K28 hK28 => ?_)
    refine wl_region ?_
    refine st_val (.int .i64 (b : Int)) (by kernel_rfl) (by kernel_rfl) ?_
    rcases Decidable.em (((b : Int) : Int) < 8) with c17 | c17
    ·
      refine st_val (.bool true) (by kernel_rfl) (bool_of (dec_t c17) (by kernel_rfl)) ?_
      refine wl_nil ?_
      refine hK28 _ _ ?_
      try clear hK28 K28
      refine wp_cond_true (by kernel_rfl) ?_
      refine wp_skip ?_
      refine hK27 _ _ ?_
      try clear hK27 K27
      refine wp_seq_k (fun K29 hK29 => ?_)
      refine wp_block ?_
      refine wp_seq_k (fun K30 hK30 => ?_)
      refine wl_region ?_
      refine st_val (.int .i64 0) (by kernel_rfl) (by kernel_rfl) ?_
      refine wl_nil ?_
      refine hK30 _ _ ?_
      try clear hK30 K30
      refine wp_block ?_
      refine wp_loop_ghost (fun gn a' w' => ∃ (c : Nat) (u31 : Nat → Value), ((c ≤ 8) ∧ Mem NoS w w' [(g12, .cells (iv zeros) 23 (0, 0)), (g9, .cells (iv (tab 64 (part2 (R2 xs) (8 * a + b) (dot (s1 xs (8 * a + b)) c)))) 23 (0, 0)), (g5, .cells (iv zeros) 23 (0, 0)), (g2, .cells (iv xs) 23 (0, 0))]) ∧ gn = 8 - c ∧ a' = ⟨#[.agg (iv xs), .pointer (some ⟨g2, 0, none⟩), .pointer (some ⟨g5, 0, none⟩), .pointer (some ⟨g9, 0, none⟩), .pointer (some ⟨g12, 0, none⟩), .int .i64 (a : Int), .int .i64 (b : Int), .int .i64 (c : Int), undef, undef, undef, undef, .int .i64 (a : Int), .bool true, (u17 14), (u17 15), .int .i64 (b : Int), .bool true, (u24 18), (u24 19), (u31 20), (u31 21), (u31 22), (u31 23), (u31 24), (u31 25), (u31 26), (u31 27), (u31 28), (u31 29), (u31 30), (u31 31), (u31 32), (u31 33), (u31 34), (u31 35), (u31 36), (u31 37), (u31 38), (u31 39), (u31 40), (u31 41), (u31 42), (u31 43), (u31 44), (u31 45), (u31 46), undef, undef, undef, undef, undef, undef, undef, undef, undef, undef, undef, undef, undef, undef, undef, undef, undef, undef, undef, undef, undef, undef, undef, undef, undef, undef, undef, undef, undef, undef, undef, undef, undef, undef, undef, undef, undef, undef, undef, undef, undef, undef, undef, undef, undef, undef, undef], []⟩) _ ⟨0, (fun zz => Array.getD #[.agg (iv xs), .pointer (some ⟨g2, 0, none⟩), .pointer (some ⟨g5, 0, none⟩), .pointer (some ⟨g9, 0, none⟩), .pointer (some ⟨g12, 0, none⟩), .int .i64 (a : Int), .int .i64 (b : Int), .int .i64 0, undef, undef, undef, undef, .int .i64 (a : Int), .bool true, (u17 14), (u17 15), .int .i64 (b : Int), .bool true, (u24 18), (u24 19), (u24 20), (u24 21), (u24 22), (u24 23), (u24 24), (u24 25), (u24 26), (u24 27), (u24 28), (u24 29), (u24 30), (u24 31), (u24 32), (u24 33), (u24 34), (u24 35), (u24 36), (u24 37), (u24 38), (u24 39), (u24 40), (u24 41), (u24 42), (u24 43), (u24 44), (u24 45), (u24 46), undef, undef, undef, undef, undef, undef, undef, undef, undef, undef, undef, undef, undef, undef, undef, undef, undef, undef, undef, undef, undef, undef, undef, undef, undef, undef, undef, undef, undef, undef, undef, undef, undef, undef, undef, undef, undef, undef, undef, undef, undef, undef, undef, undef, undef, undef, undef] zz undef), ⟨by omega, M26⟩, rfl, (by kernel_rfl)⟩ ?_
      rintro gn _ W32 ⟨c, u31, ⟨rc, M33⟩, rfl, rfl⟩
      refine wp_seq_k (fun K34 hK34 => ?_)
      refine wp_seq_k (fun K35 hK35 => ?_)
      refine wl_region ?_
      refine st_val (.int .i64 (c : Int)) (by kernel_rfl) (by kernel_rfl) ?_
      rcases Decidable.em (((c : Int) : Int) < 8) with c21 | c21
      ·
        have b0 := tm_le c b (by omega)
        have b1 := iw_b1 xs a b c (by omega) (by omega)
        have b2 := R2_le xs (8 * a + b) c (by omega)
        refine st_val (.bool true) (by kernel_rfl) (bool_of (dec_t c21) (by kernel_rfl)) ?_
        refine wl_nil ?_
        refine hK35 _ _ ?_
        try clear hK35 K35
        refine wp_cond_true (by kernel_rfl) ?_
        refine wp_skip ?_
        refine hK34 _ _ ?_
        try clear hK34 K34
        refine wp_seq_k (fun K36 hK36 => ?_)
        refine wp_block ?_
        refine wl_seq 23 (fun w' => Mem NoS w w' [(g12, .cells (iv zeros) 23 (0, 0)), (g9, .cells (iv (tab 64 (part2 (R2 xs) (8 * a + b) (dot (s1 xs (8 * a + b)) c)))) 23 (0, 0)), (g5, .cells (iv zeros) 23 (0, 0)), (g2, .cells (iv xs) 23 (0, 0))]) (by decide) (by kernel_rfl) (by kernel_rfl) M33.drew ?_
        refine seq_run (v := .int .i64 (a : Int)) (by decide) (by kernel_rfl) (fun w' M' => (by kernel_rfl)) ?_
        refine seq_run (v := .int .i64 (8 * (a : Int))) (by decide) (by kernel_rfl) (fun w' M' => (i64_of (by omega) (by kernel_rfl))) ?_
        refine seq_run (v := .int .i64 (b : Int)) (by decide) (by kernel_rfl) (fun w' M' => (by kernel_rfl)) ?_
        refine seq_run (v := .int .i64 ((8 * (a : Int)) + (b : Int))) (by decide) (by kernel_rfl) (fun w' M' => (i64_of (by omega) (by kernel_rfl))) ?_
        refine seq_run (v := .pointer (some ⟨g9, 8 * a + b, none⟩)) (by decide) (by kernel_rfl) (fun w' M' => (run_indexAddr 23 (.tmp 3) (.tmp 27) rfl ⟨g9, 0, none⟩ .i64 (8 * a + b) (by kernel_rfl) (by kernel_rfl) Try.underlying23 1 (by kernel_rfl) (by omega) ⟨g9, 8 * a + b, none⟩ (addr_at0 _ _))) ?_
        refine seq_run (v := .int .i64 (dot (s1 xs (8 * a + b)) c)) (by decide) (by kernel_rfl) (fun w' M' => (run_load_cell 3 (.tmp 28) rfl ⟨g9, 8 * a + b, none⟩ (by kernel_rfl) _ (M'.cell 1 rfl (8 * a + b) _ ((iv_get _ _ (by rw [tab_length]; omega)).trans (by rw [part2_at _ _ _ (by omega)]))) (by kernel_rfl))) ?_
        refine seq_run (v := .int .i64 (c : Int)) (by decide) (by kernel_rfl) (fun w' M' => (by kernel_rfl)) ?_
        refine seq_run (v := .int .i64 (b : Int)) (by decide) (by kernel_rfl) (fun w' M' => (by kernel_rfl)) ?_
        refine seq_call (v := .int .i64 (mt c b)) (f := 21) (args := #[.int .i64 (c : Int), .int .i64 (b : Int)]) (by decide) (by kernel_rfl) (fun w' M' => (run_value_call 21 #[(Operand.tmp 30), (Operand.tmp 31)] _ rfl Try.func21 (by kernel_rfl) (by kernel_rfl) _ (by kernel_rfl))) (fun w' M' => callB_mem M' (refBasis_in w' c b (by omega) (by omega))) ?_
        refine seq_run (v := .int .i64 (c : Int)) (by decide) (by kernel_rfl) (fun w' M' => (by kernel_rfl)) ?_
        refine seq_call (v := .int .i64 (nrm c)) (f := 19) (args := #[.int .i64 (c : Int)]) (by decide) (by kernel_rfl) (fun w' M' => (run_value_call 19 #[(Operand.tmp 33)] _ rfl Try.func19 (by kernel_rfl) (by kernel_rfl) _ (by kernel_rfl))) (fun w' M' => callB_mem M' ((by have := refNorm_walk w' (c : Int); rw [bnrm_nat (by omega)] at this; exact this))) ?_
        refine seq_run (v := .int .i64 (sc c)) (by decide) (by kernel_rfl) (fun w' M' => (run_value_bin .quo 3 3 _ (.tmp 34) rfl (.int .i64 739840) (.int .i64 (nrm c)) _ (by kernel_rfl) (by kernel_rfl) (by kernel_rfl) (bin_quo (nrm_ne (by omega)) (nrm_quo_w (by omega))))) ?_
        refine seq_run (v := .int .i64 (tm c b)) (by decide) (by kernel_rfl) (fun w' M' => (i64_of (by omega) (by kernel_rfl))) ?_
        refine seq_run (v := .int .i64 (a : Int)) (by decide) (by kernel_rfl) (fun w' M' => (by kernel_rfl)) ?_
        refine seq_run (v := .int .i64 (8 * (a : Int))) (by decide) (by kernel_rfl) (fun w' M' => (i64_of (by omega) (by kernel_rfl))) ?_
        refine seq_run (v := .int .i64 (c : Int)) (by decide) (by kernel_rfl) (fun w' M' => (by kernel_rfl)) ?_
        refine seq_run (v := .int .i64 ((8 * (a : Int)) + (c : Int))) (by decide) (by kernel_rfl) (fun w' M' => (i64_of (by omega) (by kernel_rfl))) ?_
        refine seq_run (v := .pointer (some ⟨g2, 8 * a + c, none⟩)) (by decide) (by kernel_rfl) (fun w' M' => (run_indexAddr 23 (.tmp 1) (.tmp 40) rfl ⟨g2, 0, none⟩ .i64 (8 * a + c) (by kernel_rfl) (by kernel_rfl) Try.underlying23 1 (by kernel_rfl) (by omega) ⟨g2, 8 * a + c, none⟩ (addr_at0 _ _))) ?_
        refine seq_run (v := .int .i64 (xs.getD (8 * a + c) 0)) (by decide) (by kernel_rfl) (fun w' M' => (run_load_cell 3 (.tmp 41) rfl ⟨g2, 8 * a + c, none⟩ (by kernel_rfl) _ (M'.cell 3 rfl (8 * a + c) _ (iv_get xs (8 * a + c) (by rw [hl]; omega))) (by kernel_rfl))) ?_
        refine seq_call (v := .int .i64 (cl (xs.getD (8 * a + c) 0))) (f := 20) (args := #[.int .i64 (xs.getD (8 * a + c) 0)]) (by decide) (by kernel_rfl) (fun w' M' => (run_value_call 20 #[(Operand.tmp 42)] _ rfl Try.func20 (by kernel_rfl) (by kernel_rfl) _ (by kernel_rfl))) (fun w' M' => callE_mem M' ((by have := clamp_walk w' (xs.getD (8 * a + c) 0); rw [cl_ref] at this; exact this.mono fun e w' h => ⟨h.1, h.2.symm⟩))) ?_
        refine seq_run (v := .int .i64 ((tm c b) * (cl (xs.getD (8 * a + c) 0)))) (by decide) (by kernel_rfl) (fun w' M' => (i64_of (by omega) (by kernel_rfl))) ?_
        refine seq_run (v := .int .i64 ((dot (s1 xs (8 * a + b)) c) + ((tm c b) * (cl (xs.getD (8 * a + c) 0))))) (by decide) (by kernel_rfl) (fun w' M' => (i64_of (by omega) (by kernel_rfl))) ?_
        refine seq_run (v := .pointer (some ⟨g9, 8 * a + b, none⟩)) (by decide) (by kernel_rfl) (fun w' M' => (run_indexAddr 23 (.tmp 3) (.tmp 27) rfl ⟨g9, 0, none⟩ .i64 (8 * a + b) (by kernel_rfl) (by kernel_rfl) Try.underlying23 1 (by kernel_rfl) (by omega) ⟨g9, 8 * a + b, none⟩ (addr_at0 _ _))) ?_
        refine seq_end (by decide) ?_
        intro W37 M38
        refine st_storeCell M38 1 rfl 3 (.tmp 46) (.tmp 45) (by rfl) (8 * a + b) (.int .i64 ((dot (s1 xs (8 * a + b)) c) + ((tm c b) * (cl (xs.getD (8 * a + c) 0))))) (iv ((tab 64 (part2 (R2 xs) (8 * a + b) (dot (s1 xs (8 * a + b)) c))).set (8 * a + b) ((dot (s1 xs (8 * a + b)) c) + ((tm c b) * (cl (xs.getD (8 * a + c) 0)))))) (by kernel_rfl) (by kernel_rfl) (by rw [iv_size, tab_length]; omega) (by kernel_rfl) rfl (by kernel_rfl) (iv_set _ _ _) (by kernel_rfl) [(g12, .cells (iv zeros) 23 (0, 0)), (g9, .cells (iv ((tab 64 (part2 (R2 xs) (8 * a + b) (dot (s1 xs (8 * a + b)) c))).set (8 * a + b) ((dot (s1 xs (8 * a + b)) c) + ((tm c b) * (cl (xs.getD (8 * a + c) 0)))))) 23 (0, 0)), (g5, .cells (iv zeros) 23 (0, 0)), (g2, .cells (iv xs) 23 (0, 0))] rfl ?_
        intro W39 M40
        refine wl_nil ?_
        refine blk_normal ?_
        refine hK36 _ _ ?_
        try clear hK36 K36
        refine wp_frame (a' := ⟨#[.agg (iv xs), .pointer (some ⟨g2, 0, none⟩), .pointer (some ⟨g5, 0, none⟩), .pointer (some ⟨g9, 0, none⟩), .pointer (some ⟨g12, 0, none⟩), .int .i64 (a : Int), .int .i64 (b : Int), .int .i64 (c : Int), undef, undef, undef, undef, .int .i64 (a : Int), .bool true, (u17 14), (u17 15), .int .i64 (b : Int), .bool true, (u24 18), (u24 19), .int .i64 (c : Int), .bool true, (u31 22), (u31 23), .int .i64 (a : Int), .int .i64 (8 * (a : Int)), .int .i64 (b : Int), .int .i64 ((8 * (a : Int)) + (b : Int)), .pointer (some ⟨g9, 8 * a + b, none⟩), .int .i64 (dot (s1 xs (8 * a + b)) c), .int .i64 (c : Int), .int .i64 (b : Int), .int .i64 (mt c b), .int .i64 (c : Int), .int .i64 (nrm c), .int .i64 (sc c), .int .i64 (tm c b), .int .i64 (a : Int), .int .i64 (8 * (a : Int)), .int .i64 (c : Int), .int .i64 ((8 * (a : Int)) + (c : Int)), .pointer (some ⟨g2, 8 * a + c, none⟩), .int .i64 (xs.getD (8 * a + c) 0), .int .i64 (cl (xs.getD (8 * a + c) 0)), .int .i64 ((tm c b) * (cl (xs.getD (8 * a + c) 0))), .int .i64 ((dot (s1 xs (8 * a + b)) c) + ((tm c b) * (cl (xs.getD (8 * a + c) 0)))), .pointer (some ⟨g9, 8 * a + b, none⟩), undef, undef, undef, undef, undef, undef, undef, undef, undef, undef, undef, undef, undef, undef, undef, undef, undef, undef, undef, undef, undef, undef, undef, undef, undef, undef, undef, undef, undef, undef, undef, undef, undef, undef, undef, undef, undef, undef, undef, undef, undef, undef, undef, undef, undef, undef, undef], []⟩) (by kernel_rfl) ?_
        refine wl_region ?_
        refine st_val (.int .i64 (c : Int)) (by kernel_rfl) (by kernel_rfl) ?_
        refine st_val (.int .i64 ((c : Int) + 1)) (by kernel_rfl) (i64_of (by omega) (by kernel_rfl)) ?_
        refine st_val (.int .i64 ((c : Int) + 1)) (by kernel_rfl) (by kernel_rfl) ?_
        refine wl_nil ?_
        refine th_normal ?_
        exact ⟨_, by omega, (c + 1), (fun zz => Array.getD #[.agg (iv xs), .pointer (some ⟨g2, 0, none⟩), .pointer (some ⟨g5, 0, none⟩), .pointer (some ⟨g9, 0, none⟩), .pointer (some ⟨g12, 0, none⟩), .int .i64 (a : Int), .int .i64 (b : Int), .int .i64 ((c : Int) + 1), undef, undef, undef, undef, .int .i64 (a : Int), .bool true, (u17 14), (u17 15), .int .i64 (b : Int), .bool true, (u24 18), (u24 19), .int .i64 (c : Int), .bool true, .int .i64 (c : Int), .int .i64 ((c : Int) + 1), .int .i64 (a : Int), .int .i64 (8 * (a : Int)), .int .i64 (b : Int), .int .i64 ((8 * (a : Int)) + (b : Int)), .pointer (some ⟨g9, 8 * a + b, none⟩), .int .i64 (dot (s1 xs (8 * a + b)) c), .int .i64 (c : Int), .int .i64 (b : Int), .int .i64 (mt c b), .int .i64 (c : Int), .int .i64 (nrm c), .int .i64 (sc c), .int .i64 (tm c b), .int .i64 (a : Int), .int .i64 (8 * (a : Int)), .int .i64 (c : Int), .int .i64 ((8 * (a : Int)) + (c : Int)), .pointer (some ⟨g2, 8 * a + c, none⟩), .int .i64 (xs.getD (8 * a + c) 0), .int .i64 (cl (xs.getD (8 * a + c) 0)), .int .i64 ((tm c b) * (cl (xs.getD (8 * a + c) 0))), .int .i64 ((dot (s1 xs (8 * a + b)) c) + ((tm c b) * (cl (xs.getD (8 * a + c) 0)))), .pointer (some ⟨g9, 8 * a + b, none⟩), undef, undef, undef, undef, undef, undef, undef, undef, undef, undef, undef, undef, undef, undef, undef, undef, undef, undef, undef, undef, undef, undef, undef, undef, undef, undef, undef, undef, undef, undef, undef, undef, undef, undef, undef, undef, undef, undef, undef, undef, undef, undef, undef, undef, undef, undef, undef] zz undef), ⟨by omega, (by rw [← iw_step1 xs a b c (by omega)]; exact M40)⟩, rfl, (by kernel_rfl)⟩
      ·
        refine st_val (.bool false) (by kernel_rfl) (bool_of (dec_f c21) (by kernel_rfl)) ?_
        refine wl_nil ?_
        refine hK35 _ _ ?_
        try clear hK35 K35
        refine wp_cond_false (by kernel_rfl) ?_
        refine wp_exit ?_
        refine th_exit ?_
        refine th_exit ?_
        refine blk_exit ?_
        refine blk_normal ?_
        refine hK29 _ _ ?_
        try clear hK29 K29
        refine wl_region ?_
        refine st_val (.int .i64 (b : Int)) (by kernel_rfl) (by kernel_rfl) ?_
        refine st_val (.int .i64 ((b : Int) + 1)) (by kernel_rfl) (i64_of (by omega) (by kernel_rfl)) ?_
        refine st_val (.int .i64 ((b : Int) + 1)) (by kernel_rfl) (by kernel_rfl) ?_
        refine wl_nil ?_
        refine th_normal ?_
        exact ⟨_, by omega, (b + 1), (fun zz => Array.getD #[.agg (iv xs), .pointer (some ⟨g2, 0, none⟩), .pointer (some ⟨g5, 0, none⟩), .pointer (some ⟨g9, 0, none⟩), .pointer (some ⟨g12, 0, none⟩), .int .i64 (a : Int), .int .i64 ((b : Int) + 1), .int .i64 (c : Int), undef, undef, undef, undef, .int .i64 (a : Int), .bool true, (u17 14), (u17 15), .int .i64 (b : Int), .bool true, .int .i64 (b : Int), .int .i64 ((b : Int) + 1), .int .i64 (c : Int), .bool false, (u31 22), (u31 23), (u31 24), (u31 25), (u31 26), (u31 27), (u31 28), (u31 29), (u31 30), (u31 31), (u31 32), (u31 33), (u31 34), (u31 35), (u31 36), (u31 37), (u31 38), (u31 39), (u31 40), (u31 41), (u31 42), (u31 43), (u31 44), (u31 45), (u31 46), undef, undef, undef, undef, undef, undef, undef, undef, undef, undef, undef, undef, undef, undef, undef, undef, undef, undef, undef, undef, undef, undef, undef, undef, undef, undef, undef, undef, undef, undef, undef, undef, undef, undef, undef, undef, undef, undef, undef, undef, undef, undef, undef, undef, undef, undef, undef] zz undef), ⟨by omega, (by have hh := M33; rw [part2_next (R2 xs) (8 * a + b) _ (by rw [show c = 8 by omega]; rfl)] at hh; exact hh)⟩, rfl, (by kernel_rfl)⟩
    ·
      refine st_val (.bool false) (by kernel_rfl) (bool_of (dec_f c17) (by kernel_rfl)) ?_
      refine wl_nil ?_
      refine hK28 _ _ ?_
      try clear hK28 K28
      refine wp_cond_false (by kernel_rfl) ?_
      refine wp_exit ?_
      refine th_exit ?_
      refine th_exit ?_
      refine blk_exit ?_
      refine blk_normal ?_
      refine hK22 _ _ ?_
      try clear hK22 K22
      refine wl_region ?_
      refine st_val (.int .i64 (a : Int)) (by kernel_rfl) (by kernel_rfl) ?_
      refine st_val (.int .i64 ((a : Int) + 1)) (by kernel_rfl) (i64_of (by omega) (by kernel_rfl)) ?_
      refine st_val (.int .i64 ((a : Int) + 1)) (by kernel_rfl) (by kernel_rfl) ?_
      refine wl_nil ?_
      refine th_normal ?_
      exact ⟨_, by omega, (a + 1), (fun zz => Array.getD #[.agg (iv xs), .pointer (some ⟨g2, 0, none⟩), .pointer (some ⟨g5, 0, none⟩), .pointer (some ⟨g9, 0, none⟩), .pointer (some ⟨g12, 0, none⟩), .int .i64 ((a : Int) + 1), .int .i64 (b : Int), (u24 7), undef, undef, undef, undef, .int .i64 (a : Int), .bool true, .int .i64 (a : Int), .int .i64 ((a : Int) + 1), .int .i64 (b : Int), .bool false, (u24 18), (u24 19), (u24 20), (u24 21), (u24 22), (u24 23), (u24 24), (u24 25), (u24 26), (u24 27), (u24 28), (u24 29), (u24 30), (u24 31), (u24 32), (u24 33), (u24 34), (u24 35), (u24 36), (u24 37), (u24 38), (u24 39), (u24 40), (u24 41), (u24 42), (u24 43), (u24 44), (u24 45), (u24 46), undef, undef, undef, undef, undef, undef, undef, undef, undef, undef, undef, undef, undef, undef, undef, undef, undef, undef, undef, undef, undef, undef, undef, undef, undef, undef, undef, undef, undef, undef, undef, undef, undef, undef, undef, undef, undef, undef, undef, undef, undef, undef, undef, undef, undef, undef, undef] zz undef), ⟨by omega, (by have hh := M26; rw [show 8 * a + b = 8 * (a + 1) by omega] at hh; exact hh)⟩, rfl, (by kernel_rfl)⟩
  ·
    refine st_val (.bool false) (by kernel_rfl) (bool_of (dec_f c13) (by kernel_rfl)) ?_
    refine wl_nil ?_
    refine hK21 _ _ ?_
    try clear hK21 K21
    refine wp_cond_false (by kernel_rfl) ?_
    refine wp_exit ?_
    refine th_exit ?_
    refine th_exit ?_
    refine blk_exit ?_
    refine hK15 _ _ ?_
    try clear hK15 K15
    refine wp_seq_k (fun K41 hK41 => ?_)
    refine wp_seq_k (fun K42 hK42 => ?_)
    have M43 : Mem NoS w W18 [(g12, .cells (iv zeros) 23 (0, 0)), (g9, .cells (iv (tab 64 (R2 xs))) 23 (0, 0)), (g5, .cells (iv zeros) 23 (0, 0)), (g2, .cells (iv xs) 23 (0, 0))] := by
      have hh := M19; rw [show 8 * a = 64 by omega, part2_end] at hh; exact hh
    refine wl_region ?_
    refine st_val (.int .i64 0) (by kernel_rfl) (by kernel_rfl) ?_
    refine wl_nil ?_
    refine hK42 _ _ ?_
    try clear hK42 K42
    refine wp_block ?_
    refine wp_loop_ghost (fun gn a' w' => ∃ (e : Nat) (u44 : Nat → Value), ((e ≤ 8) ∧ Mem NoS w w' [(g12, .cells (iv (tab 64 (part2 (X2 xs) (8 * e) 0))) 23 (0, 0)), (g9, .cells (iv (tab 64 (R2 xs))) 23 (0, 0)), (g5, .cells (iv zeros) 23 (0, 0)), (g2, .cells (iv xs) 23 (0, 0))]) ∧ gn = 8 - e ∧ a' = ⟨#[.agg (iv xs), .pointer (some ⟨g2, 0, none⟩), .pointer (some ⟨g5, 0, none⟩), .pointer (some ⟨g9, 0, none⟩), .pointer (some ⟨g12, 0, none⟩), .int .i64 (a : Int), (u17 6), (u17 7), .int .i64 (e : Int), (u44 9), (u44 10), (u44 11), .int .i64 (a : Int), .bool false, (u17 14), (u17 15), (u17 16), (u17 17), (u17 18), (u17 19), (u17 20), (u17 21), (u17 22), (u17 23), (u17 24), (u17 25), (u17 26), (u17 27), (u17 28), (u17 29), (u17 30), (u17 31), (u17 32), (u17 33), (u17 34), (u17 35), (u17 36), (u17 37), (u17 38), (u17 39), (u17 40), (u17 41), (u17 42), (u17 43), (u17 44), (u17 45), (u17 46), (u44 47), (u44 48), (u44 49), (u44 50), (u44 51), (u44 52), (u44 53), (u44 54), (u44 55), (u44 56), (u44 57), (u44 58), (u44 59), (u44 60), (u44 61), (u44 62), (u44 63), (u44 64), (u44 65), (u44 66), (u44 67), (u44 68), (u44 69), (u44 70), (u44 71), (u44 72), (u44 73), (u44 74), (u44 75), (u44 76), (u44 77), (u44 78), (u44 79), (u44 80), (u44 81), (u44 82), (u44 83), (u44 84), (u44 85), (u44 86), (u44 87), (u44 88), (u44 89), (u44 90), (u44 91), (u44 92), undef], []⟩) _ ⟨0, (fun zz => Array.getD #[.agg (iv xs), .pointer (some ⟨g2, 0, none⟩), .pointer (some ⟨g5, 0, none⟩), .pointer (some ⟨g9, 0, none⟩), .pointer (some ⟨g12, 0, none⟩), .int .i64 (a : Int), (u17 6), (u17 7), .int .i64 0, undef, undef, undef, .int .i64 (a : Int), .bool false, (u17 14), (u17 15), (u17 16), (u17 17), (u17 18), (u17 19), (u17 20), (u17 21), (u17 22), (u17 23), (u17 24), (u17 25), (u17 26), (u17 27), (u17 28), (u17 29), (u17 30), (u17 31), (u17 32), (u17 33), (u17 34), (u17 35), (u17 36), (u17 37), (u17 38), (u17 39), (u17 40), (u17 41), (u17 42), (u17 43), (u17 44), (u17 45), (u17 46), undef, undef, undef, undef, undef, undef, undef, undef, undef, undef, undef, undef, undef, undef, undef, undef, undef, undef, undef, undef, undef, undef, undef, undef, undef, undef, undef, undef, undef, undef, undef, undef, undef, undef, undef, undef, undef, undef, undef, undef, undef, undef, undef, undef, undef, undef, undef] zz undef), ⟨by omega, (by rw [fw_zero]; exact M43)⟩, rfl, (by kernel_rfl)⟩ ?_
    rintro gn _ W45 ⟨e, u44, ⟨re, M46⟩, rfl, rfl⟩
    refine wp_seq_k (fun K47 hK47 => ?_)
    refine wp_seq_k (fun K48 hK48 => ?_)
    refine wl_region ?_
    refine st_val (.int .i64 (e : Int)) (by kernel_rfl) (by kernel_rfl) ?_
    rcases Decidable.em (((e : Int) : Int) < 8) with c48 | c48
    ·
      refine st_val (.bool true) (by kernel_rfl) (bool_of (dec_t c48) (by kernel_rfl)) ?_
      refine wl_nil ?_
      refine hK48 _ _ ?_
      try clear hK48 K48
      refine wp_cond_true (by kernel_rfl) ?_
      refine wp_skip ?_
      refine hK47 _ _ ?_
      try clear hK47 K47
      refine wp_seq_k (fun K49 hK49 => ?_)
      refine wp_block ?_
      refine wp_seq_k (fun K50 hK50 => ?_)
      refine wl_region ?_
      refine st_val (.int .i64 0) (by kernel_rfl) (by kernel_rfl) ?_
      refine wl_nil ?_
      refine hK50 _ _ ?_
      try clear hK50 K50
      refine wp_block ?_
      refine wp_loop_ghost (fun gn a' w' => ∃ (f : Nat) (u51 : Nat → Value), ((f ≤ 8) ∧ Mem NoS w w' [(g12, .cells (iv (tab 64 (part2 (X2 xs) (8 * e + f) 0))) 23 (0, 0)), (g9, .cells (iv (tab 64 (R2 xs))) 23 (0, 0)), (g5, .cells (iv zeros) 23 (0, 0)), (g2, .cells (iv xs) 23 (0, 0))]) ∧ gn = 8 - f ∧ a' = ⟨#[.agg (iv xs), .pointer (some ⟨g2, 0, none⟩), .pointer (some ⟨g5, 0, none⟩), .pointer (some ⟨g9, 0, none⟩), .pointer (some ⟨g12, 0, none⟩), .int .i64 (a : Int), (u17 6), (u17 7), .int .i64 (e : Int), .int .i64 (f : Int), (u51 10), (u51 11), .int .i64 (a : Int), .bool false, (u17 14), (u17 15), (u17 16), (u17 17), (u17 18), (u17 19), (u17 20), (u17 21), (u17 22), (u17 23), (u17 24), (u17 25), (u17 26), (u17 27), (u17 28), (u17 29), (u17 30), (u17 31), (u17 32), (u17 33), (u17 34), (u17 35), (u17 36), (u17 37), (u17 38), (u17 39), (u17 40), (u17 41), (u17 42), (u17 43), (u17 44), (u17 45), (u17 46), .int .i64 (e : Int), .bool true, (u44 49), (u44 50), (u51 51), (u51 52), (u51 53), (u51 54), (u51 55), (u51 56), (u51 57), (u51 58), (u51 59), (u51 60), (u51 61), (u51 62), (u51 63), (u51 64), (u51 65), (u51 66), (u51 67), (u51 68), (u51 69), (u51 70), (u51 71), (u51 72), (u51 73), (u51 74), (u51 75), (u51 76), (u51 77), (u51 78), (u51 79), (u51 80), (u51 81), (u51 82), (u51 83), (u51 84), (u51 85), (u51 86), (u51 87), (u51 88), (u51 89), (u51 90), (u51 91), (u51 92), undef], []⟩) _ ⟨0, (fun zz => Array.getD #[.agg (iv xs), .pointer (some ⟨g2, 0, none⟩), .pointer (some ⟨g5, 0, none⟩), .pointer (some ⟨g9, 0, none⟩), .pointer (some ⟨g12, 0, none⟩), .int .i64 (a : Int), (u17 6), (u17 7), .int .i64 (e : Int), .int .i64 0, (u44 10), (u44 11), .int .i64 (a : Int), .bool false, (u17 14), (u17 15), (u17 16), (u17 17), (u17 18), (u17 19), (u17 20), (u17 21), (u17 22), (u17 23), (u17 24), (u17 25), (u17 26), (u17 27), (u17 28), (u17 29), (u17 30), (u17 31), (u17 32), (u17 33), (u17 34), (u17 35), (u17 36), (u17 37), (u17 38), (u17 39), (u17 40), (u17 41), (u17 42), (u17 43), (u17 44), (u17 45), (u17 46), .int .i64 (e : Int), .bool true, (u44 49), (u44 50), (u44 51), (u44 52), (u44 53), (u44 54), (u44 55), (u44 56), (u44 57), (u44 58), (u44 59), (u44 60), (u44 61), (u44 62), (u44 63), (u44 64), (u44 65), (u44 66), (u44 67), (u44 68), (u44 69), (u44 70), (u44 71), (u44 72), (u44 73), (u44 74), (u44 75), (u44 76), (u44 77), (u44 78), (u44 79), (u44 80), (u44 81), (u44 82), (u44 83), (u44 84), (u44 85), (u44 86), (u44 87), (u44 88), (u44 89), (u44 90), (u44 91), (u44 92), undef] zz undef), ⟨by omega, M46⟩, rfl, (by kernel_rfl)⟩ ?_
      rintro gn _ W52 ⟨f, u51, ⟨rf, M53⟩, rfl, rfl⟩
      refine wp_seq_k (fun K54 hK54 => ?_)
      refine wp_seq_k (fun K55 hK55 => ?_)
      refine wl_region ?_
      refine st_val (.int .i64 (f : Int)) (by kernel_rfl) (by kernel_rfl) ?_
      rcases Decidable.em (((f : Int) : Int) < 8) with c52 | c52
      ·
        refine st_val (.bool true) (by kernel_rfl) (bool_of (dec_t c52) (by kernel_rfl)) ?_
        refine wl_nil ?_
        refine hK55 _ _ ?_
        try clear hK55 K55
        refine wp_cond_true (by kernel_rfl) ?_
        refine wp_skip ?_
        refine hK54 _ _ ?_
        try clear hK54 K54
        refine wp_seq_k (fun K56 hK56 => ?_)
        refine wp_block ?_
        refine wp_seq_k (fun K57 hK57 => ?_)
        refine wl_region ?_
        refine st_val (.int .i64 273681612800) (by kernel_rfl) (by kernel_rfl) ?_
        refine wl_nil ?_
        refine hK57 _ _ ?_
        try clear hK57 K57
        refine wp_seq_k (fun K58 hK58 => ?_)
        refine wp_seq_k (fun K59 hK59 => ?_)
        refine wl_region ?_
        refine st_val (.int .i64 0) (by kernel_rfl) (by kernel_rfl) ?_
        refine wl_nil ?_
        refine hK59 _ _ ?_
        try clear hK59 K59
        refine wp_block ?_
        refine wp_loop_ghost (fun gn a' w' => ∃ (h : Nat) (u60 : Nat → Value), ((h ≤ 8) ∧ Mem NoS w w' [(g12, .cells (iv (tab 64 (part2 (X2 xs) (8 * e + f) 0))) 23 (0, 0)), (g9, .cells (iv (tab 64 (R2 xs))) 23 (0, 0)), (g5, .cells (iv zeros) 23 (0, 0)), (g2, .cells (iv xs) 23 (0, 0))]) ∧ gn = 8 - h ∧ a' = ⟨#[.agg (iv xs), .pointer (some ⟨g2, 0, none⟩), .pointer (some ⟨g5, 0, none⟩), .pointer (some ⟨g9, 0, none⟩), .pointer (some ⟨g12, 0, none⟩), .int .i64 (a : Int), (u17 6), (u17 7), .int .i64 (e : Int), .int .i64 (f : Int), .int .i64 (273681612800 + dot (s2x xs e f) h), .int .i64 (h : Int), .int .i64 (a : Int), .bool false, (u17 14), (u17 15), (u17 16), (u17 17), (u17 18), (u17 19), (u17 20), (u17 21), (u17 22), (u17 23), (u17 24), (u17 25), (u17 26), (u17 27), (u17 28), (u17 29), (u17 30), (u17 31), (u17 32), (u17 33), (u17 34), (u17 35), (u17 36), (u17 37), (u17 38), (u17 39), (u17 40), (u17 41), (u17 42), (u17 43), (u17 44), (u17 45), (u17 46), .int .i64 (e : Int), .bool true, (u44 49), (u44 50), .int .i64 (f : Int), .bool true, (u51 53), (u51 54), (u60 55), (u60 56), (u60 57), (u60 58), (u60 59), (u60 60), (u60 61), (u60 62), (u60 63), (u60 64), (u60 65), (u60 66), (u60 67), (u60 68), (u60 69), (u60 70), (u60 71), (u60 72), (u60 73), (u60 74), (u51 75), (u51 76), (u51 77), (u51 78), (u51 79), (u51 80), (u51 81), (u51 82), (u51 83), (u51 84), (u51 85), (u51 86), (u51 87), (u51 88), (u51 89), (u51 90), (u51 91), (u51 92), undef], []⟩) _ ⟨0, (fun zz => Array.getD #[.agg (iv xs), .pointer (some ⟨g2, 0, none⟩), .pointer (some ⟨g5, 0, none⟩), .pointer (some ⟨g9, 0, none⟩), .pointer (some ⟨g12, 0, none⟩), .int .i64 (a : Int), (u17 6), (u17 7), .int .i64 (e : Int), .int .i64 (f : Int), .int .i64 273681612800, .int .i64 0, .int .i64 (a : Int), .bool false, (u17 14), (u17 15), (u17 16), (u17 17), (u17 18), (u17 19), (u17 20), (u17 21), (u17 22), (u17 23), (u17 24), (u17 25), (u17 26), (u17 27), (u17 28), (u17 29), (u17 30), (u17 31), (u17 32), (u17 33), (u17 34), (u17 35), (u17 36), (u17 37), (u17 38), (u17 39), (u17 40), (u17 41), (u17 42), (u17 43), (u17 44), (u17 45), (u17 46), .int .i64 (e : Int), .bool true, (u44 49), (u44 50), .int .i64 (f : Int), .bool true, (u51 53), (u51 54), (u51 55), (u51 56), (u51 57), (u51 58), (u51 59), (u51 60), (u51 61), (u51 62), (u51 63), (u51 64), (u51 65), (u51 66), (u51 67), (u51 68), (u51 69), (u51 70), (u51 71), (u51 72), (u51 73), (u51 74), (u51 75), (u51 76), (u51 77), (u51 78), (u51 79), (u51 80), (u51 81), (u51 82), (u51 83), (u51 84), (u51 85), (u51 86), (u51 87), (u51 88), (u51 89), (u51 90), (u51 91), (u51 92), undef] zz undef), ⟨by omega, M53⟩, rfl, (by kernel_rfl)⟩ ?_
        rintro gn _ W61 ⟨h, u60, ⟨rh, M62⟩, rfl, rfl⟩
        refine wp_seq_k (fun K63 hK63 => ?_)
        refine wp_seq_k (fun K64 hK64 => ?_)
        refine wl_region ?_
        refine st_val (.int .i64 (h : Int)) (by kernel_rfl) (by kernel_rfl) ?_
        rcases Decidable.em (((h : Int) : Int) < 8) with c56 | c56
        ·
          have b0 := tm_le h e (by omega)
          have b1 := s2x_le xs e f h (by omega) (by omega) (by omega)
          have b2 := s2x_dot xs e f h (by omega) (by omega) (by omega)
          refine st_val (.bool true) (by kernel_rfl) (bool_of (dec_t c56) (by kernel_rfl)) ?_
          refine wl_nil ?_
          refine hK64 _ _ ?_
          try clear hK64 K64
          refine wp_cond_true (by kernel_rfl) ?_
          refine wp_skip ?_
          refine hK63 _ _ ?_
          try clear hK63 K63
          refine wp_seq_k (fun K65 hK65 => ?_)
          refine wp_block ?_
          refine wl_seq 17 (fun w' => Mem NoS w w' [(g12, .cells (iv (tab 64 (part2 (X2 xs) (8 * e + f) 0))) 23 (0, 0)), (g9, .cells (iv (tab 64 (R2 xs))) 23 (0, 0)), (g5, .cells (iv zeros) 23 (0, 0)), (g2, .cells (iv xs) 23 (0, 0))]) (by decide) (by kernel_rfl) (by kernel_rfl) M62.drew ?_
          refine seq_run (v := .int .i64 (273681612800 + dot (s2x xs e f) h)) (by decide) (by kernel_rfl) (fun w' M' => (by kernel_rfl)) ?_
          refine seq_run (v := .int .i64 (h : Int)) (by decide) (by kernel_rfl) (fun w' M' => (by kernel_rfl)) ?_
          refine seq_run (v := .int .i64 (e : Int)) (by decide) (by kernel_rfl) (fun w' M' => (by kernel_rfl)) ?_
          refine seq_call (v := .int .i64 (mt h e)) (f := 21) (args := #[.int .i64 (h : Int), .int .i64 (e : Int)]) (by decide) (by kernel_rfl) (fun w' M' => (run_value_call 21 #[(Operand.tmp 60), (Operand.tmp 61)] _ rfl Try.func21 (by kernel_rfl) (by kernel_rfl) _ (by kernel_rfl))) (fun w' M' => callB_mem M' (refBasis_in w' h e (by omega) (by omega))) ?_
          refine seq_run (v := .int .i64 (h : Int)) (by decide) (by kernel_rfl) (fun w' M' => (by kernel_rfl)) ?_
          refine seq_call (v := .int .i64 (nrm h)) (f := 19) (args := #[.int .i64 (h : Int)]) (by decide) (by kernel_rfl) (fun w' M' => (run_value_call 19 #[(Operand.tmp 63)] _ rfl Try.func19 (by kernel_rfl) (by kernel_rfl) _ (by kernel_rfl))) (fun w' M' => callB_mem M' ((by have := refNorm_walk w' (h : Int); rw [bnrm_nat (by omega)] at this; exact this))) ?_
          refine seq_run (v := .int .i64 (sc h)) (by decide) (by kernel_rfl) (fun w' M' => (run_value_bin .quo 3 3 _ (.tmp 64) rfl (.int .i64 739840) (.int .i64 (nrm h)) _ (by kernel_rfl) (by kernel_rfl) (by kernel_rfl) (bin_quo (nrm_ne (by omega)) (nrm_quo_w (by omega))))) ?_
          refine seq_run (v := .int .i64 (tm h e)) (by decide) (by kernel_rfl) (fun w' M' => (i64_of (by omega) (by kernel_rfl))) ?_
          refine seq_run (v := .int .i64 (h : Int)) (by decide) (by kernel_rfl) (fun w' M' => (by kernel_rfl)) ?_
          refine seq_run (v := .int .i64 (8 * (h : Int))) (by decide) (by kernel_rfl) (fun w' M' => (i64_of (by omega) (by kernel_rfl))) ?_
          refine seq_run (v := .int .i64 (f : Int)) (by decide) (by kernel_rfl) (fun w' M' => (by kernel_rfl)) ?_
          refine seq_run (v := .int .i64 ((8 * (h : Int)) + (f : Int))) (by decide) (by kernel_rfl) (fun w' M' => (i64_of (by omega) (by kernel_rfl))) ?_
          refine seq_run (v := .pointer (some ⟨g9, 8 * h + f, none⟩)) (by decide) (by kernel_rfl) (fun w' M' => (run_indexAddr 23 (.tmp 3) (.tmp 70) rfl ⟨g9, 0, none⟩ .i64 (8 * h + f) (by kernel_rfl) (by kernel_rfl) Try.underlying23 1 (by kernel_rfl) (by omega) ⟨g9, 8 * h + f, none⟩ (addr_at0 _ _))) ?_
          refine seq_run (v := .int .i64 (R2 xs (8 * h + f))) (by decide) (by kernel_rfl) (fun w' M' => (run_load_cell 3 (.tmp 71) rfl ⟨g9, 8 * h + f, none⟩ (by kernel_rfl) _ (M'.cell 1 rfl (8 * h + f) _ ((iv_get _ _ (by rw [tab_length]; omega)).trans (by rw [tab_getD _ _ _ (by omega)]))) (by kernel_rfl))) ?_
          refine seq_run (v := .int .i64 ((tm h e) * (R2 xs (8 * h + f)))) (by decide) (by kernel_rfl) (fun w' M' => (i64_of (by omega) (by kernel_rfl))) ?_
          refine seq_run (v := .int .i64 (273681612800 + (dot (s2x xs e f) h + tm h e * R2 xs (8 * h + f)))) (by decide) (by kernel_rfl) (fun w' M' => (int_of (show 273681612800 + dot (s2x xs e f) h + tm h e * R2 xs (8 * h + f) = 273681612800 + (dot (s2x xs e f) h + tm h e * R2 xs (8 * h + f)) by omega) (i64_of (by omega) (by kernel_rfl)))) ?_
          refine seq_run (v := .int .i64 (273681612800 + (dot (s2x xs e f) h + tm h e * R2 xs (8 * h + f)))) (by decide) (by kernel_rfl) (fun w' M' => (by kernel_rfl)) ?_
          refine seq_end (by decide) ?_
          intro W66 M67
          refine wl_nil ?_
          refine blk_normal ?_
          refine hK65 _ _ ?_
          try clear hK65 K65
          refine wp_frame (a' := ⟨#[.agg (iv xs), .pointer (some ⟨g2, 0, none⟩), .pointer (some ⟨g5, 0, none⟩), .pointer (some ⟨g9, 0, none⟩), .pointer (some ⟨g12, 0, none⟩), .int .i64 (a : Int), (u17 6), (u17 7), .int .i64 (e : Int), .int .i64 (f : Int), .int .i64 (273681612800 + (dot (s2x xs e f) h + tm h e * R2 xs (8 * h + f))), .int .i64 (h : Int), .int .i64 (a : Int), .bool false, (u17 14), (u17 15), (u17 16), (u17 17), (u17 18), (u17 19), (u17 20), (u17 21), (u17 22), (u17 23), (u17 24), (u17 25), (u17 26), (u17 27), (u17 28), (u17 29), (u17 30), (u17 31), (u17 32), (u17 33), (u17 34), (u17 35), (u17 36), (u17 37), (u17 38), (u17 39), (u17 40), (u17 41), (u17 42), (u17 43), (u17 44), (u17 45), (u17 46), .int .i64 (e : Int), .bool true, (u44 49), (u44 50), .int .i64 (f : Int), .bool true, (u51 53), (u51 54), .int .i64 (h : Int), .bool true, (u60 57), (u60 58), .int .i64 (273681612800 + dot (s2x xs e f) h), .int .i64 (h : Int), .int .i64 (e : Int), .int .i64 (mt h e), .int .i64 (h : Int), .int .i64 (nrm h), .int .i64 (sc h), .int .i64 (tm h e), .int .i64 (h : Int), .int .i64 (8 * (h : Int)), .int .i64 (f : Int), .int .i64 ((8 * (h : Int)) + (f : Int)), .pointer (some ⟨g9, 8 * h + f, none⟩), .int .i64 (R2 xs (8 * h + f)), .int .i64 ((tm h e) * (R2 xs (8 * h + f))), .int .i64 (273681612800 + (dot (s2x xs e f) h + tm h e * R2 xs (8 * h + f))), (u51 75), (u51 76), (u51 77), (u51 78), (u51 79), (u51 80), (u51 81), (u51 82), (u51 83), (u51 84), (u51 85), (u51 86), (u51 87), (u51 88), (u51 89), (u51 90), (u51 91), (u51 92), undef], []⟩) (by kernel_rfl) ?_
          refine wl_region ?_
          refine st_val (.int .i64 (h : Int)) (by kernel_rfl) (by kernel_rfl) ?_
          refine st_val (.int .i64 ((h : Int) + 1)) (by kernel_rfl) (i64_of (by omega) (by kernel_rfl)) ?_
          refine st_val (.int .i64 ((h : Int) + 1)) (by kernel_rfl) (by kernel_rfl) ?_
          refine wl_nil ?_
          refine th_normal ?_
          exact ⟨_, by omega, (h + 1), (fun zz => Array.getD #[.agg (iv xs), .pointer (some ⟨g2, 0, none⟩), .pointer (some ⟨g5, 0, none⟩), .pointer (some ⟨g9, 0, none⟩), .pointer (some ⟨g12, 0, none⟩), .int .i64 (a : Int), (u17 6), (u17 7), .int .i64 (e : Int), .int .i64 (f : Int), .int .i64 (273681612800 + (dot (s2x xs e f) h + tm h e * R2 xs (8 * h + f))), .int .i64 ((h : Int) + 1), .int .i64 (a : Int), .bool false, (u17 14), (u17 15), (u17 16), (u17 17), (u17 18), (u17 19), (u17 20), (u17 21), (u17 22), (u17 23), (u17 24), (u17 25), (u17 26), (u17 27), (u17 28), (u17 29), (u17 30), (u17 31), (u17 32), (u17 33), (u17 34), (u17 35), (u17 36), (u17 37), (u17 38), (u17 39), (u17 40), (u17 41), (u17 42), (u17 43), (u17 44), (u17 45), (u17 46), .int .i64 (e : Int), .bool true, (u44 49), (u44 50), .int .i64 (f : Int), .bool true, (u51 53), (u51 54), .int .i64 (h : Int), .bool true, .int .i64 (h : Int), .int .i64 ((h : Int) + 1), .int .i64 (273681612800 + dot (s2x xs e f) h), .int .i64 (h : Int), .int .i64 (e : Int), .int .i64 (mt h e), .int .i64 (h : Int), .int .i64 (nrm h), .int .i64 (sc h), .int .i64 (tm h e), .int .i64 (h : Int), .int .i64 (8 * (h : Int)), .int .i64 (f : Int), .int .i64 ((8 * (h : Int)) + (f : Int)), .pointer (some ⟨g9, 8 * h + f, none⟩), .int .i64 (R2 xs (8 * h + f)), .int .i64 ((tm h e) * (R2 xs (8 * h + f))), .int .i64 (273681612800 + (dot (s2x xs e f) h + tm h e * R2 xs (8 * h + f))), (u51 75), (u51 76), (u51 77), (u51 78), (u51 79), (u51 80), (u51 81), (u51 82), (u51 83), (u51 84), (u51 85), (u51 86), (u51 87), (u51 88), (u51 89), (u51 90), (u51 91), (u51 92), undef] zz undef), ⟨by omega, M67⟩, rfl, (by kernel_rfl)⟩
        ·
          have b2 := s2x_dot xs e f h (by omega) (by omega) (by omega)
          refine st_val (.bool false) (by kernel_rfl) (bool_of (dec_f c56) (by kernel_rfl)) ?_
          refine wl_nil ?_
          refine hK64 _ _ ?_
          try clear hK64 K64
          refine wp_cond_false (by kernel_rfl) ?_
          refine wp_exit ?_
          refine th_exit ?_
          refine th_exit ?_
          refine blk_exit ?_
          refine hK58 _ _ ?_
          try clear hK58 K58
          refine wp_seq_k (fun K68 hK68 => ?_)
          refine wl_region ?_
          refine st_val (.int .i64 (e : Int)) (by kernel_rfl) (by kernel_rfl) ?_
          refine st_val (.int .i64 (8 * (e : Int))) (by kernel_rfl) (i64_of (by omega) (by kernel_rfl)) ?_
          refine st_val (.int .i64 (f : Int)) (by kernel_rfl) (by kernel_rfl) ?_
          refine st_val (.int .i64 ((8 * (e : Int)) + (f : Int))) (by kernel_rfl) (i64_of (by omega) (by kernel_rfl)) ?_
          refine st_val (.int .i64 (273681612800 + dot (s2x xs e f) h)) (by kernel_rfl) (by kernel_rfl) ?_
          refine st_val (.int .i64 ((273681612800 + dot (s2x xs e f) h).tdiv 547363225600)) (by kernel_rfl) (i64_of (tdiv_in (by omega)) (by kernel_rfl)) ?_
          refine st_val (.pointer (some ⟨g12, 8 * e + f, none⟩)) (by kernel_rfl) (run_indexAddr 23 (.tmp 4) (.tmp 78) rfl ⟨g12, 0, none⟩ .i64 (8 * e + f) (by kernel_rfl) (by kernel_rfl) Try.underlying23 1 (by kernel_rfl) (by omega) ⟨g12, 8 * e + f, none⟩ (addr_at0 _ _)) ?_
          refine st_storeCell M62 0 rfl 3 (.tmp 81) (.tmp 80) (by rfl) (8 * e + f) (.int .i64 ((273681612800 + dot (s2x xs e f) h).tdiv 547363225600)) (iv ((tab 64 (part2 (X2 xs) (8 * e + f) 0)).set (8 * e + f) ((273681612800 + dot (s2x xs e f) h).tdiv 547363225600))) (by kernel_rfl) (by kernel_rfl) (by rw [iv_size, tab_length]; omega) (by kernel_rfl) rfl (by kernel_rfl) (iv_set _ _ _) (by kernel_rfl) [(g12, .cells (iv ((tab 64 (part2 (X2 xs) (8 * e + f) 0)).set (8 * e + f) ((273681612800 + dot (s2x xs e f) h).tdiv 547363225600))) 23 (0, 0)), (g9, .cells (iv (tab 64 (R2 xs))) 23 (0, 0)), (g5, .cells (iv zeros) 23 (0, 0)), (g2, .cells (iv xs) 23 (0, 0))] rfl ?_
          intro W69 M70
          refine wl_nil ?_
          refine hK68 _ _ ?_
          try clear hK68 K68
          refine wp_seq_k (fun K71 hK71 => ?_)
          have M72 : Mem NoS w W69 [(g12, .cells (iv (tab 64 (part2 (X2 xs) (8 * e + f) ((273681612800 + dot (s2x xs e f) h).tdiv 547363225600)))) 23 (0, 0)), (g9, .cells (iv (tab 64 (R2 xs))) 23 (0, 0)), (g5, .cells (iv zeros) 23 (0, 0)), (g2, .cells (iv xs) 23 (0, 0))] := by
            have hh := M70; rw [part2_set] at hh; exact hh
          refine wl_region ?_
          refine st_val (.int .i64 (273681612800 + dot (s2x xs e f) h)) (by kernel_rfl) (by kernel_rfl) ?_
          refine st_val (.int .i64 ((273681612800 + dot (s2x xs e f) h).tmod 547363225600)) (by kernel_rfl) (by kernel_rfl) ?_
          rcases Decidable.em (((273681612800 + dot (s2x xs e f) h).tmod 547363225600 : Int) < 0) with c84 | c84
          ·
            have b3 := @tdiv_in (273681612800 + dot (s2x xs e f) h) (by omega)
            have b4 := tdiv_small (s := 273681612800 + dot (s2x xs e f) h) (by omega)
            refine st_val (.bool true) (by kernel_rfl) (bool_of (dec_t c84) (by kernel_rfl)) ?_
            refine wl_nil ?_
            refine hK71 _ _ ?_
            try clear hK71 K71
            refine wp_cond_true (by kernel_rfl) ?_
            refine wl_region ?_
            refine st_val (.int .i64 (e : Int)) (by kernel_rfl) (by kernel_rfl) ?_
            refine st_val (.int .i64 (8 * (e : Int))) (by kernel_rfl) (i64_of (by omega) (by kernel_rfl)) ?_
            refine st_val (.int .i64 (f : Int)) (by kernel_rfl) (by kernel_rfl) ?_
            refine st_val (.int .i64 ((8 * (e : Int)) + (f : Int))) (by kernel_rfl) (i64_of (by omega) (by kernel_rfl)) ?_
            refine st_val (.pointer (some ⟨g12, 8 * e + f, none⟩)) (by kernel_rfl) (run_indexAddr 23 (.tmp 4) (.tmp 88) rfl ⟨g12, 0, none⟩ .i64 (8 * e + f) (by kernel_rfl) (by kernel_rfl) Try.underlying23 1 (by kernel_rfl) (by omega) ⟨g12, 8 * e + f, none⟩ (addr_at0 _ _)) ?_
            refine st_val (.int .i64 ((273681612800 + dot (s2x xs e f) h).tdiv 547363225600)) (by kernel_rfl) (run_load_cell 3 (.tmp 89) rfl ⟨g12, 8 * e + f, none⟩ (by kernel_rfl) _ (M72.cell 0 rfl (8 * e + f) _ ((iv_get _ _ (by rw [tab_length]; omega)).trans (by rw [part2_at _ _ _ (by omega)]))) (by kernel_rfl)) ?_
            refine st_val (.int .i64 (((273681612800 + dot (s2x xs e f) h).tdiv 547363225600) - 1)) (by kernel_rfl) (i64_of (by omega) (by kernel_rfl)) ?_
            refine st_val (.pointer (some ⟨g12, 8 * e + f, none⟩)) (by kernel_rfl) (run_indexAddr 23 (.tmp 4) (.tmp 88) rfl ⟨g12, 0, none⟩ .i64 (8 * e + f) (by kernel_rfl) (by kernel_rfl) Try.underlying23 1 (by kernel_rfl) (by omega) ⟨g12, 8 * e + f, none⟩ (addr_at0 _ _)) ?_
            refine st_storeCell M72 0 rfl 3 (.tmp 92) (.tmp 91) (by rfl) (8 * e + f) (.int .i64 (((273681612800 + dot (s2x xs e f) h).tdiv 547363225600) - 1)) (iv ((tab 64 (part2 (X2 xs) (8 * e + f) ((273681612800 + dot (s2x xs e f) h).tdiv 547363225600))).set (8 * e + f) (((273681612800 + dot (s2x xs e f) h).tdiv 547363225600) - 1))) (by kernel_rfl) (by kernel_rfl) (by rw [iv_size, tab_length]; omega) (by kernel_rfl) rfl (by kernel_rfl) (iv_set _ _ _) (by kernel_rfl) [(g12, .cells (iv ((tab 64 (part2 (X2 xs) (8 * e + f) ((273681612800 + dot (s2x xs e f) h).tdiv 547363225600))).set (8 * e + f) (((273681612800 + dot (s2x xs e f) h).tdiv 547363225600) - 1))) 23 (0, 0)), (g9, .cells (iv (tab 64 (R2 xs))) 23 (0, 0)), (g5, .cells (iv zeros) 23 (0, 0)), (g2, .cells (iv xs) 23 (0, 0))] rfl ?_
            intro W73 M74
            refine wl_nil ?_
            refine blk_normal ?_
            refine hK56 _ _ ?_
            try clear hK56 K56
            refine wp_frame (a' := ⟨#[.agg (iv xs), .pointer (some ⟨g2, 0, none⟩), .pointer (some ⟨g5, 0, none⟩), .pointer (some ⟨g9, 0, none⟩), .pointer (some ⟨g12, 0, none⟩), .int .i64 (a : Int), (u17 6), (u17 7), .int .i64 (e : Int), .int .i64 (f : Int), .int .i64 (273681612800 + dot (s2x xs e f) h), .int .i64 (h : Int), .int .i64 (a : Int), .bool false, (u17 14), (u17 15), (u17 16), (u17 17), (u17 18), (u17 19), (u17 20), (u17 21), (u17 22), (u17 23), (u17 24), (u17 25), (u17 26), (u17 27), (u17 28), (u17 29), (u17 30), (u17 31), (u17 32), (u17 33), (u17 34), (u17 35), (u17 36), (u17 37), (u17 38), (u17 39), (u17 40), (u17 41), (u17 42), (u17 43), (u17 44), (u17 45), (u17 46), .int .i64 (e : Int), .bool true, (u44 49), (u44 50), .int .i64 (f : Int), .bool true, (u51 53), (u51 54), .int .i64 (h : Int), .bool false, (u60 57), (u60 58), (u60 59), (u60 60), (u60 61), (u60 62), (u60 63), (u60 64), (u60 65), (u60 66), (u60 67), (u60 68), (u60 69), (u60 70), (u60 71), (u60 72), (u60 73), (u60 74), .int .i64 (e : Int), .int .i64 (8 * (e : Int)), .int .i64 (f : Int), .int .i64 ((8 * (e : Int)) + (f : Int)), .int .i64 (273681612800 + dot (s2x xs e f) h), .int .i64 ((273681612800 + dot (s2x xs e f) h).tdiv 547363225600), .pointer (some ⟨g12, 8 * e + f, none⟩), .int .i64 (273681612800 + dot (s2x xs e f) h), .int .i64 ((273681612800 + dot (s2x xs e f) h).tmod 547363225600), .bool true, .int .i64 (e : Int), .int .i64 (8 * (e : Int)), .int .i64 (f : Int), .int .i64 ((8 * (e : Int)) + (f : Int)), .pointer (some ⟨g12, 8 * e + f, none⟩), .int .i64 ((273681612800 + dot (s2x xs e f) h).tdiv 547363225600), .int .i64 (((273681612800 + dot (s2x xs e f) h).tdiv 547363225600) - 1), .pointer (some ⟨g12, 8 * e + f, none⟩), undef], []⟩) (by kernel_rfl) ?_
            refine wl_region ?_
            refine st_val (.int .i64 (f : Int)) (by kernel_rfl) (by kernel_rfl) ?_
            refine st_val (.int .i64 ((f : Int) + 1)) (by kernel_rfl) (i64_of (by omega) (by kernel_rfl)) ?_
            refine st_val (.int .i64 ((f : Int) + 1)) (by kernel_rfl) (by kernel_rfl) ?_
            refine wl_nil ?_
            refine th_normal ?_
            exact ⟨_, by omega, (f + 1), (fun zz => Array.getD #[.agg (iv xs), .pointer (some ⟨g2, 0, none⟩), .pointer (some ⟨g5, 0, none⟩), .pointer (some ⟨g9, 0, none⟩), .pointer (some ⟨g12, 0, none⟩), .int .i64 (a : Int), (u17 6), (u17 7), .int .i64 (e : Int), .int .i64 ((f : Int) + 1), .int .i64 (273681612800 + dot (s2x xs e f) h), .int .i64 (h : Int), .int .i64 (a : Int), .bool false, (u17 14), (u17 15), (u17 16), (u17 17), (u17 18), (u17 19), (u17 20), (u17 21), (u17 22), (u17 23), (u17 24), (u17 25), (u17 26), (u17 27), (u17 28), (u17 29), (u17 30), (u17 31), (u17 32), (u17 33), (u17 34), (u17 35), (u17 36), (u17 37), (u17 38), (u17 39), (u17 40), (u17 41), (u17 42), (u17 43), (u17 44), (u17 45), (u17 46), .int .i64 (e : Int), .bool true, (u44 49), (u44 50), .int .i64 (f : Int), .bool true, .int .i64 (f : Int), .int .i64 ((f : Int) + 1), .int .i64 (h : Int), .bool false, (u60 57), (u60 58), (u60 59), (u60 60), (u60 61), (u60 62), (u60 63), (u60 64), (u60 65), (u60 66), (u60 67), (u60 68), (u60 69), (u60 70), (u60 71), (u60 72), (u60 73), (u60 74), .int .i64 (e : Int), .int .i64 (8 * (e : Int)), .int .i64 (f : Int), .int .i64 ((8 * (e : Int)) + (f : Int)), .int .i64 (273681612800 + dot (s2x xs e f) h), .int .i64 ((273681612800 + dot (s2x xs e f) h).tdiv 547363225600), .pointer (some ⟨g12, 8 * e + f, none⟩), .int .i64 (273681612800 + dot (s2x xs e f) h), .int .i64 ((273681612800 + dot (s2x xs e f) h).tmod 547363225600), .bool true, .int .i64 (e : Int), .int .i64 (8 * (e : Int)), .int .i64 (f : Int), .int .i64 ((8 * (e : Int)) + (f : Int)), .pointer (some ⟨g12, 8 * e + f, none⟩), .int .i64 ((273681612800 + dot (s2x xs e f) h).tdiv 547363225600), .int .i64 (((273681612800 + dot (s2x xs e f) h).tdiv 547363225600) - 1), .pointer (some ⟨g12, 8 * e + f, none⟩), undef] zz undef), ⟨by omega, (by have hh := M74; rw [part2_set, part2_next (X2 xs) (8 * e + f) _ (x2_neg xs e f h (by omega) (by omega) c84)] at hh; exact hh)⟩, rfl, (by kernel_rfl)⟩
          ·
            refine st_val (.bool false) (by kernel_rfl) (bool_of (dec_f c84) (by kernel_rfl)) ?_
            refine wl_nil ?_
            refine hK71 _ _ ?_
            try clear hK71 K71
            refine wp_cond_false (by kernel_rfl) ?_
            refine wp_skip ?_
            refine blk_normal ?_
            refine hK56 _ _ ?_
            try clear hK56 K56
            refine wl_region ?_
            refine st_val (.int .i64 (f : Int)) (by kernel_rfl) (by kernel_rfl) ?_
            refine st_val (.int .i64 ((f : Int) + 1)) (by kernel_rfl) (i64_of (by omega) (by kernel_rfl)) ?_
            refine st_val (.int .i64 ((f : Int) + 1)) (by kernel_rfl) (by kernel_rfl) ?_
            refine wl_nil ?_
            refine th_normal ?_
            exact ⟨_, by omega, (f + 1), (fun zz => Array.getD #[.agg (iv xs), .pointer (some ⟨g2, 0, none⟩), .pointer (some ⟨g5, 0, none⟩), .pointer (some ⟨g9, 0, none⟩), .pointer (some ⟨g12, 0, none⟩), .int .i64 (a : Int), (u17 6), (u17 7), .int .i64 (e : Int), .int .i64 ((f : Int) + 1), .int .i64 (273681612800 + dot (s2x xs e f) h), .int .i64 (h : Int), .int .i64 (a : Int), .bool false, (u17 14), (u17 15), (u17 16), (u17 17), (u17 18), (u17 19), (u17 20), (u17 21), (u17 22), (u17 23), (u17 24), (u17 25), (u17 26), (u17 27), (u17 28), (u17 29), (u17 30), (u17 31), (u17 32), (u17 33), (u17 34), (u17 35), (u17 36), (u17 37), (u17 38), (u17 39), (u17 40), (u17 41), (u17 42), (u17 43), (u17 44), (u17 45), (u17 46), .int .i64 (e : Int), .bool true, (u44 49), (u44 50), .int .i64 (f : Int), .bool true, .int .i64 (f : Int), .int .i64 ((f : Int) + 1), .int .i64 (h : Int), .bool false, (u60 57), (u60 58), (u60 59), (u60 60), (u60 61), (u60 62), (u60 63), (u60 64), (u60 65), (u60 66), (u60 67), (u60 68), (u60 69), (u60 70), (u60 71), (u60 72), (u60 73), (u60 74), .int .i64 (e : Int), .int .i64 (8 * (e : Int)), .int .i64 (f : Int), .int .i64 ((8 * (e : Int)) + (f : Int)), .int .i64 (273681612800 + dot (s2x xs e f) h), .int .i64 ((273681612800 + dot (s2x xs e f) h).tdiv 547363225600), .pointer (some ⟨g12, 8 * e + f, none⟩), .int .i64 (273681612800 + dot (s2x xs e f) h), .int .i64 ((273681612800 + dot (s2x xs e f) h).tmod 547363225600), .bool false, (u51 85), (u51 86), (u51 87), (u51 88), (u51 89), (u51 90), (u51 91), (u51 92), undef] zz undef), ⟨by omega, (by have hh := M72; rw [ part2_next (X2 xs) (8 * e + f) _ (x2_pos xs e f h (by omega) (by omega) c84)] at hh; exact hh)⟩, rfl, (by kernel_rfl)⟩
      ·
        refine st_val (.bool false) (by kernel_rfl) (bool_of (dec_f c52) (by kernel_rfl)) ?_
        refine wl_nil ?_
        refine hK55 _ _ ?_
        try clear hK55 K55
        refine wp_cond_false (by kernel_rfl) ?_
        refine wp_exit ?_
        refine th_exit ?_
        refine th_exit ?_
        refine blk_exit ?_
        refine blk_normal ?_
        refine hK49 _ _ ?_
        try clear hK49 K49
        refine wl_region ?_
        refine st_val (.int .i64 (e : Int)) (by kernel_rfl) (by kernel_rfl) ?_
        refine st_val (.int .i64 ((e : Int) + 1)) (by kernel_rfl) (i64_of (by omega) (by kernel_rfl)) ?_
        refine st_val (.int .i64 ((e : Int) + 1)) (by kernel_rfl) (by kernel_rfl) ?_
        refine wl_nil ?_
        refine th_normal ?_
        exact ⟨_, by omega, (e + 1), (fun zz => Array.getD #[.agg (iv xs), .pointer (some ⟨g2, 0, none⟩), .pointer (some ⟨g5, 0, none⟩), .pointer (some ⟨g9, 0, none⟩), .pointer (some ⟨g12, 0, none⟩), .int .i64 (a : Int), (u17 6), (u17 7), .int .i64 ((e : Int) + 1), .int .i64 (f : Int), (u51 10), (u51 11), .int .i64 (a : Int), .bool false, (u17 14), (u17 15), (u17 16), (u17 17), (u17 18), (u17 19), (u17 20), (u17 21), (u17 22), (u17 23), (u17 24), (u17 25), (u17 26), (u17 27), (u17 28), (u17 29), (u17 30), (u17 31), (u17 32), (u17 33), (u17 34), (u17 35), (u17 36), (u17 37), (u17 38), (u17 39), (u17 40), (u17 41), (u17 42), (u17 43), (u17 44), (u17 45), (u17 46), .int .i64 (e : Int), .bool true, .int .i64 (e : Int), .int .i64 ((e : Int) + 1), .int .i64 (f : Int), .bool false, (u51 53), (u51 54), (u51 55), (u51 56), (u51 57), (u51 58), (u51 59), (u51 60), (u51 61), (u51 62), (u51 63), (u51 64), (u51 65), (u51 66), (u51 67), (u51 68), (u51 69), (u51 70), (u51 71), (u51 72), (u51 73), (u51 74), (u51 75), (u51 76), (u51 77), (u51 78), (u51 79), (u51 80), (u51 81), (u51 82), (u51 83), (u51 84), (u51 85), (u51 86), (u51 87), (u51 88), (u51 89), (u51 90), (u51 91), (u51 92), undef] zz undef), ⟨by omega, (by have hh := M53; rw [show 8 * e + f = 8 * (e + 1) by omega] at hh; exact hh)⟩, rfl, (by kernel_rfl)⟩
    ·
      refine st_val (.bool false) (by kernel_rfl) (bool_of (dec_f c48) (by kernel_rfl)) ?_
      refine wl_nil ?_
      refine hK48 _ _ ?_
      try clear hK48 K48
      refine wp_cond_false (by kernel_rfl) ?_
      refine wp_exit ?_
      refine th_exit ?_
      refine th_exit ?_
      refine blk_exit ?_
      refine hK41 _ _ ?_
      try clear hK41 K41
      refine wp_seq_k (fun K75 hK75 => ?_)
      have M76 : Mem NoS w W45 [(g12, .cells (iv (inv xs)) 23 (0, 0)), (g9, .cells (iv (tab 64 (R2 xs))) 23 (0, 0)), (g5, .cells (iv zeros) 23 (0, 0)), (g2, .cells (iv xs) 23 (0, 0))] := by
        have hh := M46; rw [show 8 * e = 64 by omega, part2_end] at hh; exact hh
      refine wl_region ?_
      refine st_val (.agg (iv (inv xs))) (by kernel_rfl) (run_load_row 23 (.tmp 4) rfl g12 (by kernel_rfl) 23 (iv (inv xs)) (0, 0) _ (M76.get 0 rfl) Try.underlying23 rfl (info64 _ (tab_length _ _))) ?_
      refine st_storeRow M76 2 rfl 23 (.tmp 2) (.tmp 93) (by rfl) (iv (inv xs)) (by kernel_rfl) (by kernel_rfl) (info64 _ (tab_length _ _)) (iv_same (tab_length _ _) zeros_length) (iv_one _) (by kernel_rfl) [(g12, .cells (iv (inv xs)) 23 (0, 0)), (g9, .cells (iv (tab 64 (R2 xs))) 23 (0, 0)), (g5, .cells (iv (inv xs)) 23 (0, 0)), (g2, .cells (iv xs) 23 (0, 0))] rfl ?_
      intro W77 M78
      refine wl_nil ?_
      refine hK75 _ _ ?_
      try clear hK75 K75
      refine wp_ret ?_
      exact doneRow 2 23 g5 23 (iv (inv xs)) (0, 0) _ (by kernel_rfl) (by kernel_rfl) (M78.get 2 rfl) Try.underlying23 rfl (info64 _ (tab_length _ _)) (by kernel_rfl) ⟨rfl, M78.toBelow⟩
end Go.Proofs.Ytpjhehpgpfomjaa
