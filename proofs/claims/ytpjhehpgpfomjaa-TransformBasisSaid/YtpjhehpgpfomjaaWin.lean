/- The walk of the laws' within. -/
import Derived.Test.YtpjhehpgpfomjaaGw
import Derived.Test.YtpjhehpgpfomjaaFst
namespace Go.Proofs.Ytpjhehpgpfomjaa
open Go.RowKit

def withinB (l : List Int) (m : Int) : Bool := (List.range 64).all fun n => decide (-m ≤ l.getD n 0 ∧ l.getD n 0 ≤ m)
theorem withinB_iff {l : List Int} {m : Int} : withinB l m = true ↔ ∀ n, n < 64 → -m ≤ l.getD n 0 ∧ l.getD n 0 ≤ m := by
  unfold withinB
  rw [List.all_eq_true]
  exact ⟨fun h n hn => of_decide_eq_true (h n (List.mem_range.2 hn)), fun h n hn => decide_eq_true (h n (List.mem_range.1 hn))⟩
theorem withinB_t {l : List Int} {m : Int} (h : ∀ n, n < 64 → -m ≤ l.getD n 0 ∧ l.getD n 0 ≤ m) : withinB l m = true := withinB_iff.2 h
theorem withinB_f {l : List Int} {m : Int} (k : Nat) (hk : k < 64) (h : l.getD k 0 < -m ∨ m < l.getD k 0) : withinB l m = false := by
  cases c : withinB l m with
  | false => rfl
  | true => have := withinB_iff.1 c k hk; omega
theorem iv_same {l l' : List Int} {n : Nat} (h : l.length = n) (h' : l'.length = n) : (iv l).size = (iv l').size := by rw [iv_size, iv_size, h, h']
theorem zeros_length : zeros.length = 64 := tab_length _ _

set_option maxHeartbeats 8000000 in
set_option maxRecDepth 100000 in
theorem within_walk (w : World) (l : List Int) (hl : l.length = 64) (m : Int) (hm : 0 ≤ m ∧ m ≤ 4611686018427387904) : Calls Try.prog 18 #[.agg (iv l), .int .i64 m] w fun e w' => e = .returned (.bool (withinB l m)) ∧ Below w.heap.size w w' := by
  refine calls_of_wp Try.func18 rfl ?_
  refine wp_frame (a' := ⟨#[.agg (iv l), .int .i64 m, undef, undef, undef, undef, undef, undef, undef, undef, undef, undef, undef, undef, undef, undef, undef, undef, undef, undef, undef, undef, undef], []⟩) (by kernel_rfl) ?_
  have M0 : Mem NoS w w [] := Mem.start _ _
  refine wp_seq_k (fun K1 hK1 => ?_)
  refine wl_region ?_
  refine st_alloc M0 (.cells (iv l) 23 (0, 0)) (by kernel_rfl) (by kernel_rfl) ?_
  intro g2 W3 M4
  refine st_val (.bool false) (by kernel_rfl) (by kernel_rfl) ?_
  refine wl_nil ?_
  refine hK1 _ _ ?_
  try clear hK1 K1
  refine wp_seq_k (fun K5 hK5 => ?_)
  refine wp_seq_k (fun K6 hK6 => ?_)
  refine wl_region ?_
  refine st_val (.int .i64 0) (by kernel_rfl) (by kernel_rfl) ?_
  refine wl_nil ?_
  refine hK6 _ _ ?_
  try clear hK6 K6
  refine wp_block ?_
  refine wp_loop_ghost (fun gn a' w' => ∃ (k : Nat) (u7 : Nat → Value), ((k ≤ 64 ∧ ∀ n, n < k → -m ≤ l.getD n 0 ∧ l.getD n 0 ≤ m) ∧ Mem NoS w w' [(g2, .cells (iv l) 23 (0, 0))]) ∧ gn = 64 - k ∧ a' = ⟨#[.agg (iv l), .int .i64 m, .pointer (some ⟨g2, 0, none⟩), undef, (u7 4), .int .i64 (k : Int), (u7 6), (u7 7), (u7 8), (u7 9), (u7 10), (u7 11), (u7 12), (u7 13), (u7 14), (u7 15), (u7 16), (u7 17), (u7 18), (u7 19), (u7 20), (u7 21), (u7 22)], []⟩) _ ⟨0, (fun zz => Array.getD #[.agg (iv l), .int .i64 m, .pointer (some ⟨g2, 0, none⟩), undef, .bool false, .int .i64 0, undef, undef, undef, undef, undef, undef, undef, undef, undef, undef, undef, undef, undef, undef, undef, undef, undef] zz undef), ⟨⟨by omega, fun n h => by omega⟩, M4⟩, rfl, (by kernel_rfl)⟩ ?_
  rintro gn _ W8 ⟨k, u7, ⟨⟨r1, r2⟩, M9⟩, rfl, rfl⟩
  refine wp_seq_k (fun K10 hK10 => ?_)
  refine wp_seq_k (fun K11 hK11 => ?_)
  refine wl_region ?_
  refine st_val (.int .i64 (k : Int)) (by kernel_rfl) (by kernel_rfl) ?_
  rcases Decidable.em (((k : Int) : Int) < 64) with c7 | c7
  ·
    refine st_val (.bool true) (by kernel_rfl) (bool_of (dec_t c7) (by kernel_rfl)) ?_
    refine wl_nil ?_
    refine hK11 _ _ ?_
    try clear hK11 K11
    refine wp_cond_true (by kernel_rfl) ?_
    refine wp_skip ?_
    refine hK10 _ _ ?_
    try clear hK10 K10
    refine wp_seq_k (fun K12 hK12 => ?_)
    refine wp_block ?_
    refine wp_seq_k (fun K13 hK13 => ?_)
    refine wl_region ?_
    refine st_val (.int .i64 (k : Int)) (by kernel_rfl) (by kernel_rfl) ?_
    refine st_val (.pointer (some ⟨g2, k, none⟩)) (by kernel_rfl) (run_indexAddr 23 (.tmp 2) (.tmp 10) rfl ⟨g2, 0, none⟩ .i64 k (by kernel_rfl) (by kernel_rfl) Try.underlying23 1 (by kernel_rfl) (by omega) ⟨g2, k, none⟩ (addr_at0 _ _)) ?_
    refine st_val (.int .i64 (l.getD k 0)) (by kernel_rfl) (run_load_cell 3 (.tmp 11) rfl ⟨g2, k, none⟩ (by kernel_rfl) _ (M9.cell 0 rfl k _ (iv_get l k (by rw [hl]; omega))) (by kernel_rfl)) ?_
    refine st_val (.int .i64 m) (by kernel_rfl) (by kernel_rfl) ?_
    refine st_val (.int .i64 (-m)) (by kernel_rfl) (int_of (show (0 : Int) - m = -m by omega) (i64_of (by omega) (by kernel_rfl))) ?_
    rcases Decidable.em ((l.getD k 0 : Int) < -m) with c15 | c15
    ·
      refine st_val (.bool true) (by kernel_rfl) (bool_of (dec_t c15) (by kernel_rfl)) ?_
      refine st_val (.bool true) (by kernel_rfl) (by kernel_rfl) ?_
      refine st_skip (by kernel_rfl) ?_
      refine st_skip (by kernel_rfl) ?_
      refine st_skip (by kernel_rfl) ?_
      refine st_skip (by kernel_rfl) ?_
      refine st_skip (by kernel_rfl) ?_
      refine st_val (.bool true) (by kernel_rfl) (by kernel_rfl) ?_
      refine wl_nil ?_
      refine hK13 _ _ ?_
      try clear hK13 K13
      refine wp_frame (a' := ⟨#[.agg (iv l), .int .i64 m, .pointer (some ⟨g2, 0, none⟩), undef, (u7 4), .int .i64 (k : Int), .int .i64 (k : Int), .bool true, (u7 8), (u7 9), .int .i64 (k : Int), .pointer (some ⟨g2, k, none⟩), .int .i64 (l.getD k 0), .int .i64 m, .int .i64 (-m), .bool true, .bool true, undef, undef, undef, undef, undef, .bool true], []⟩) (by kernel_rfl) ?_
      refine wp_cond_true (by kernel_rfl) ?_
      refine wp_seq_k (fun K14 hK14 => ?_)
      refine wl_region ?_
      refine st_val (.bool false) (by kernel_rfl) (by kernel_rfl) ?_
      refine wl_nil ?_
      refine hK14 _ _ ?_
      try clear hK14 K14
      refine wp_ret ?_
      refine blk_ret ?_
      refine th_ret ?_
      refine th_ret ?_
      refine blk_ret ?_
      refine th_ret ?_
      exact done1 4 (.bool false) (by kernel_rfl) (by kernel_rfl) (by kernel_rfl) ⟨by rw [show withinB l m = false from withinB_f k (by omega) (by omega)], M9.toBelow⟩
    ·
      refine st_val (.bool false) (by kernel_rfl) (bool_of (dec_f c15) (by kernel_rfl)) ?_
      refine st_val (.bool false) (by kernel_rfl) (by kernel_rfl) ?_
      refine st_val (.int .i64 (k : Int)) (by kernel_rfl) (by kernel_rfl) ?_
      refine st_val (.pointer (some ⟨g2, k, none⟩)) (by kernel_rfl) (run_indexAddr 23 (.tmp 2) (.tmp 17) rfl ⟨g2, 0, none⟩ .i64 k (by kernel_rfl) (by kernel_rfl) Try.underlying23 1 (by kernel_rfl) (by omega) ⟨g2, k, none⟩ (addr_at0 _ _)) ?_
      refine st_val (.int .i64 (l.getD k 0)) (by kernel_rfl) (run_load_cell 3 (.tmp 18) rfl ⟨g2, k, none⟩ (by kernel_rfl) _ (M9.cell 0 rfl k _ (iv_get l k (by rw [hl]; omega))) (by kernel_rfl)) ?_
      refine st_val (.int .i64 m) (by kernel_rfl) (by kernel_rfl) ?_
      rcases Decidable.em ((l.getD k 0 : Int) > m) with c21 | c21
      ·
        refine st_val (.bool true) (by kernel_rfl) (bool_of (dec_t c21) (by kernel_rfl)) ?_
        refine st_val (.bool true) (by kernel_rfl) (by kernel_rfl) ?_
        refine wl_nil ?_
        refine hK13 _ _ ?_
        try clear hK13 K13
        refine wp_frame (a' := ⟨#[.agg (iv l), .int .i64 m, .pointer (some ⟨g2, 0, none⟩), undef, (u7 4), .int .i64 (k : Int), .int .i64 (k : Int), .bool true, (u7 8), (u7 9), .int .i64 (k : Int), .pointer (some ⟨g2, k, none⟩), .int .i64 (l.getD k 0), .int .i64 m, .int .i64 (-m), .bool false, .bool false, .int .i64 (k : Int), .pointer (some ⟨g2, k, none⟩), .int .i64 (l.getD k 0), .int .i64 m, .bool true, .bool true], []⟩) (by kernel_rfl) ?_
        refine wp_cond_true (by kernel_rfl) ?_
        refine wp_seq_k (fun K15 hK15 => ?_)
        refine wl_region ?_
        refine st_val (.bool false) (by kernel_rfl) (by kernel_rfl) ?_
        refine wl_nil ?_
        refine hK15 _ _ ?_
        try clear hK15 K15
        refine wp_ret ?_
        refine blk_ret ?_
        refine th_ret ?_
        refine th_ret ?_
        refine blk_ret ?_
        refine th_ret ?_
        exact done1 4 (.bool false) (by kernel_rfl) (by kernel_rfl) (by kernel_rfl) ⟨by rw [show withinB l m = false from withinB_f k (by omega) (by omega)], M9.toBelow⟩
      ·
        refine st_val (.bool false) (by kernel_rfl) (bool_of (dec_f c21) (by kernel_rfl)) ?_
        refine st_val (.bool false) (by kernel_rfl) (by kernel_rfl) ?_
        refine wl_nil ?_
        refine hK13 _ _ ?_
        try clear hK13 K13
        refine wp_frame (a' := ⟨#[.agg (iv l), .int .i64 m, .pointer (some ⟨g2, 0, none⟩), undef, (u7 4), .int .i64 (k : Int), .int .i64 (k : Int), .bool true, (u7 8), (u7 9), .int .i64 (k : Int), .pointer (some ⟨g2, k, none⟩), .int .i64 (l.getD k 0), .int .i64 m, .int .i64 (-m), .bool false, .bool false, .int .i64 (k : Int), .pointer (some ⟨g2, k, none⟩), .int .i64 (l.getD k 0), .int .i64 m, .bool false, .bool false], []⟩) (by kernel_rfl) ?_
        refine wp_cond_false (by kernel_rfl) ?_
        refine wp_skip ?_
        refine blk_normal ?_
        refine hK12 _ _ ?_
        try clear hK12 K12
        refine wl_region ?_
        refine st_val (.int .i64 (k : Int)) (by kernel_rfl) (by kernel_rfl) ?_
        refine st_val (.int .i64 ((k : Int) + 1)) (by kernel_rfl) (i64_of (by omega) (by kernel_rfl)) ?_
        refine st_val (.int .i64 ((k : Int) + 1)) (by kernel_rfl) (by kernel_rfl) ?_
        refine wl_nil ?_
        refine th_normal ?_
        exact ⟨_, by omega, (k + 1), (fun zz => Array.getD #[.agg (iv l), .int .i64 m, .pointer (some ⟨g2, 0, none⟩), undef, (u7 4), .int .i64 ((k : Int) + 1), .int .i64 (k : Int), .bool true, .int .i64 (k : Int), .int .i64 ((k : Int) + 1), .int .i64 (k : Int), .pointer (some ⟨g2, k, none⟩), .int .i64 (l.getD k 0), .int .i64 m, .int .i64 (-m), .bool false, .bool false, .int .i64 (k : Int), .pointer (some ⟨g2, k, none⟩), .int .i64 (l.getD k 0), .int .i64 m, .bool false, .bool false] zz undef), ⟨⟨by omega, fun n h => (Decidable.em (n < k)).elim (r2 n) (fun e => by obtain rfl : n = k := (by omega); exact ⟨by omega, by omega⟩)⟩, M9⟩, rfl, (by kernel_rfl)⟩
  ·
    refine st_val (.bool false) (by kernel_rfl) (bool_of (dec_f c7) (by kernel_rfl)) ?_
    refine wl_nil ?_
    refine hK11 _ _ ?_
    try clear hK11 K11
    refine wp_cond_false (by kernel_rfl) ?_
    refine wp_exit ?_
    refine th_exit ?_
    refine th_exit ?_
    refine blk_exit ?_
    refine hK5 _ _ ?_
    try clear hK5 K5
    refine wp_seq_k (fun K16 hK16 => ?_)
    refine wl_region ?_
    refine st_val (.bool true) (by kernel_rfl) (by kernel_rfl) ?_
    refine wl_nil ?_
    refine hK16 _ _ ?_
    try clear hK16 K16
    refine wp_ret ?_
    exact done1 4 (.bool true) (by kernel_rfl) (by kernel_rfl) (by kernel_rfl) ⟨by rw [show withinB l m = true from withinB_t fun n hn => r2 n (by omega)], M9.toBelow⟩
end Go.Proofs.Ytpjhehpgpfomjaa
