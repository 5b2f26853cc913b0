/- The walk of the law TransformTranspose. -/
import Derived.Test.YtpjhehpgpfomjaaAw
import Derived.Test.YtpjhehpgpfomjaaAlg
import Derived.Test.YtpjhehpgpfomjaaOrA
namespace Go.Proofs.Ytpjhehpgpfomjaa
open Go.RowKit

def trTo (l : List Int) (k n : Nat) : Int := if 8 * (n % 8) + n / 8 < k then (blockOf l).getD (8 * (n % 8) + n / 8) 0 else 0
theorem trTo_zero (l : List Int) : tab 64 (trTo l 0) = zeros := tab_congr fun n hn => by unfold trTo; rw [if_neg (by omega)]
theorem trTo_end (l : List Int) (k : Nat) (hk : 64 ≤ k) : tab 64 (trTo l k) = tr (blockOf l) := tab_congr fun n hn => by unfold trTo; rw [if_pos (by omega)]
theorem trTo_next (l : List Int) (k : Nat) (hk : k < 64) : (tab 64 (trTo l k)).set (k % 8 * 8 + k / 8) ((blockOf l).getD k 0) = tab 64 (trTo l (k + 1)) := by
  rw [tab_set]
  refine tab_congr fun n hn => ?_
  unfold trTo
  by_cases e : n = k % 8 * 8 + k / 8
  · rw [if_pos e, if_pos (by omega), show 8 * (n % 8) + n / 8 = k by omega]
  · rw [if_neg e]
    by_cases e2 : 8 * (n % 8) + n / 8 < k
    · rw [if_pos e2, if_pos (by omega)]
    · rw [if_neg e2, if_neg (by omega)]
theorem tr_fwd (l : List Int) (n : Nat) (hn : n < 64) : (fwd (tr (blockOf l))).getD (n % 8 * 8 + n / 8) 0 = (fwd (blockOf l)).getD n 0 := by
  rw [fwd_at _ _ (by omega), fwd_at _ _ hn, show n % 8 * 8 + n / 8 = 8 * (n % 8) + n / 8 by omega, Y1_tr _ _ _ (by omega) (by omega), show 8 * (n / 8) + n % 8 = n by omega]
theorem tr_inv (l : List Int) (n : Nat) (hn : n < 64) : (inv (tr (blockOf l))).getD (n % 8 * 8 + n / 8) 0 = (inv (blockOf l)).getD n 0 := by
  rw [inv_at _ _ (by omega), inv_at _ _ hn, show n % 8 * 8 + n / 8 = 8 * (n % 8) + n / 8 by omega, X2_tr _ _ _ (by omega) (by omega), show 8 * (n / 8) + n % 8 = n by omega]
theorem tr_zero (n : Nat) (hn : n < 64) : zeros.getD (n % 8 * 8 + n / 8) 0 = zeros.getD n 0 := by
  unfold zeros
  rw [tab_getD _ _ _ (by omega), tab_getD _ _ _ hn]

set_option maxHeartbeats 4000000 in
set_option maxRecDepth 100000 in
theorem TransformTranspose_walk (w : World) (v0 : Value) (l0 : List Int) (hr0 : Rd w v0 (l0.map (Value.int .i64))) : Calls Try.prog 7 #[v0] w fun e w' => e = .returned (.bool true) ∧ Below w.heap.size w w' := by
  refine calls_of_wp Try.func7 rfl ?_
  refine wp_frame (a' := ⟨#[v0, undef, undef, undef, undef, undef, undef, undef, undef, undef, undef, undef, undef, undef, undef, undef, undef, undef, undef, undef, undef, undef, undef, undef, undef, undef, undef, undef, undef, undef, undef, undef, undef, undef, undef, undef, undef, undef, undef, undef, undef, undef, undef, undef, undef, undef, undef, undef, undef, undef, undef, undef, undef, undef, undef, undef, undef, undef, undef, undef, undef, undef, undef, undef, undef, undef, undef, undef, undef, undef, undef, undef, undef, undef, undef, undef, undef], []⟩) (by kernel_rfl) ?_
  have M0 : Mem NoS w w [] := Mem.start _ _
  refine wp_seq_k (fun K1 hK1 => ?_)
  refine wl_region ?_
  refine st_val (.bool false) (by kernel_rfl) (by kernel_rfl) ?_
  refine wl_nil ?_
  refine hK1 _ _ ?_
  try clear hK1 K1
  refine wp_seq_k (fun K2 hK2 => ?_)
  refine wl_region ?_
  refine st_val (v0) (by kernel_rfl) (by kernel_rfl) ?_
  refine st_callB M0 (.agg (iv (blockOf l0))) (by kernel_rfl) (args := #[v0]) (run_value_call 13 #[(Operand.tmp 13)] _ rfl Try.func13 (by kernel_rfl) (by kernel_rfl) _ (by kernel_rfl)) (block_walk w v0 l0 (M0.rd hr0 (fun _ _ h => h))) ?_
  intro W3 M4
  refine st_alloc M4 (.cells (iv zeros) 23 (0, 0)) (by kernel_rfl) (by kernel_rfl) ?_
  intro g5 W6 M7
  refine st_storeRow M7 0 rfl 23 (.tmp 3) (.tmp 14) (by rfl) (iv (blockOf l0)) (by kernel_rfl) (by kernel_rfl) (info64 _ (blockOf_length _)) (iv_same (blockOf_length _) zeros_length) (iv_one _) (by kernel_rfl) [(g5, .cells (iv (blockOf l0)) 23 (0, 0))] rfl ?_
  intro W8 M9
  refine wl_nil ?_
  refine hK2 _ _ ?_
  try clear hK2 K2
  refine wp_seq_k (fun K10 hK10 => ?_)
  refine wl_region ?_
  refine st_alloc M9 (.cells (iv zeros) 23 (0, 0)) (by kernel_rfl) (by kernel_rfl) ?_
  intro g11 W12 M13
  refine wl_nil ?_
  refine hK10 _ _ ?_
  try clear hK10 K10
  refine wp_seq_k (fun K14 hK14 => ?_)
  refine wp_seq_k (fun K15 hK15 => ?_)
  refine wl_region ?_
  refine st_val (.int .i64 0) (by kernel_rfl) (by kernel_rfl) ?_
  refine wl_nil ?_
  refine hK15 _ _ ?_
  try clear hK15 K15
  refine wp_block ?_
  refine wp_loop_ghost (fun gn a' w' => ∃ (k : Nat) (u16 : Nat → Value), ((k ≤ 64) ∧ Mem NoS w w' [(g11, .cells (iv (tab 64 (trTo l0 k))) 23 (0, 0)), (g5, .cells (iv (blockOf l0)) 23 (0, 0))]) ∧ gn = 64 - k ∧ a' = ⟨#[v0, undef, .bool false, .pointer (some ⟨g5, 0, none⟩), .pointer (some ⟨g11, 0, none⟩), .int .i64 (k : Int), undef, undef, undef, undef, undef, undef, undef, v0, .agg (iv (blockOf l0)), (u16 15), (u16 16), (u16 17), (u16 18), (u16 19), (u16 20), (u16 21), (u16 22), (u16 23), (u16 24), (u16 25), (u16 26), (u16 27), (u16 28), undef, undef, undef, undef, undef, undef, undef, undef, undef, undef, undef, undef, undef, undef, undef, undef, undef, undef, undef, undef, undef, undef, undef, undef, undef, undef, undef, undef, undef, undef, undef, undef, undef, undef, undef, undef, undef, undef, undef, undef, undef, undef, undef, undef, undef, undef, undef, undef], []⟩) _ ⟨0, (fun zz => Array.getD #[v0, undef, .bool false, .pointer (some ⟨g5, 0, none⟩), .pointer (some ⟨g11, 0, none⟩), .int .i64 0, undef, undef, undef, undef, undef, undef, undef, v0, .agg (iv (blockOf l0)), undef, undef, undef, undef, undef, undef, undef, undef, undef, undef, undef, undef, undef, undef, undef, undef, undef, undef, undef, undef, undef, undef, undef, undef, undef, undef, undef, undef, undef, undef, undef, undef, undef, undef, undef, undef, undef, undef, undef, undef, undef, undef, undef, undef, undef, undef, undef, undef, undef, undef, undef, undef, undef, undef, undef, undef, undef, undef, undef, undef, undef, undef] zz undef), ⟨by omega, (by rw [trTo_zero]; exact M13)⟩, rfl, (by kernel_rfl)⟩ ?_
  rintro gn _ W17 ⟨k, u16, ⟨r1, M18⟩, rfl, rfl⟩
  refine wp_seq_k (fun K19 hK19 => ?_)
  refine wp_seq_k (fun K20 hK20 => ?_)
  refine wl_region ?_
  refine st_val (.int .i64 (k : Int)) (by kernel_rfl) (by kernel_rfl) ?_
  rcases Decidable.em (((k : Int) : Int) < 64) with c16 | c16
  ·
    refine st_val (.bool true) (by kernel_rfl) (bool_of (dec_t c16) (by kernel_rfl)) ?_
    refine wl_nil ?_
    refine hK20 _ _ ?_
    try clear hK20 K20
    refine wp_cond_true (by kernel_rfl) ?_
    refine wp_skip ?_
    refine hK19 _ _ ?_
    try clear hK19 K19
    refine wp_seq_k (fun K21 hK21 => ?_)
    refine wp_block ?_
    refine wl_region ?_
    refine st_val (.int .i64 (k : Int)) (by kernel_rfl) (by kernel_rfl) ?_
    refine st_val (.int .i64 ((k : Int) % 8)) (by kernel_rfl) (int_of (rem_of (k : Int) 8 (by omega)) (by kernel_rfl)) ?_
    refine st_val (.int .i64 (((k : Int) % 8) * 8)) (by kernel_rfl) (i64_of (by omega) (by kernel_rfl)) ?_
    refine st_val (.int .i64 (k : Int)) (by kernel_rfl) (by kernel_rfl) ?_
    refine st_val (.int .i64 ((k : Int) / 8)) (by kernel_rfl) (int_of (quo_of (k : Int) 8 (by omega) (by omega) (by omega)) (by kernel_rfl)) ?_
    refine st_val (.int .i64 ((((k : Int) % 8) * 8) + ((k : Int) / 8))) (by kernel_rfl) (i64_of (by omega) (by kernel_rfl)) ?_
    refine st_val (.int .i64 (k : Int)) (by kernel_rfl) (by kernel_rfl) ?_
    refine st_val (.pointer (some ⟨g5, k, none⟩)) (by kernel_rfl) (run_indexAddr 23 (.tmp 3) (.tmp 25) rfl ⟨g5, 0, none⟩ .i64 k (by kernel_rfl) (by kernel_rfl) Try.underlying23 1 (by kernel_rfl) (by omega) ⟨g5, k, none⟩ (addr_at0 _ _)) ?_
    refine st_val (.int .i64 ((blockOf l0).getD k 0)) (by kernel_rfl) (run_load_cell 3 (.tmp 26) rfl ⟨g5, k, none⟩ (by kernel_rfl) _ (M18.cell 1 rfl k _ (iv_get (blockOf l0) k (by rw [(blockOf_length _)]; omega))) (by kernel_rfl)) ?_
    refine st_val (.pointer (some ⟨g11, k % 8 * 8 + k / 8, none⟩)) (by kernel_rfl) (run_indexAddr 23 (.tmp 4) (.tmp 24) rfl ⟨g11, 0, none⟩ .i64 (k % 8 * 8 + k / 8) (by kernel_rfl) (by kernel_rfl) Try.underlying23 1 (by kernel_rfl) (by omega) ⟨g11, k % 8 * 8 + k / 8, none⟩ (addr_at0 _ _)) ?_
    refine st_storeCell M18 0 rfl 3 (.tmp 28) (.tmp 27) (by rfl) (k % 8 * 8 + k / 8) (.int .i64 ((blockOf l0).getD k 0)) (iv ((tab 64 (trTo l0 k)).set (k % 8 * 8 + k / 8) ((blockOf l0).getD k 0))) (by kernel_rfl) (by kernel_rfl) (by rw [iv_size, tab_length]; omega) (by kernel_rfl) rfl (by kernel_rfl) (iv_set _ _ _) (by kernel_rfl) [(g11, .cells (iv ((tab 64 (trTo l0 k)).set (k % 8 * 8 + k / 8) ((blockOf l0).getD k 0))) 23 (0, 0)), (g5, .cells (iv (blockOf l0)) 23 (0, 0))] rfl ?_
    intro W22 M23
    refine wl_nil ?_
    refine blk_normal ?_
    refine hK21 _ _ ?_
    try clear hK21 K21
    refine wl_region ?_
    refine st_val (.int .i64 (k : Int)) (by kernel_rfl) (by kernel_rfl) ?_
    refine st_val (.int .i64 ((k : Int) + 1)) (by kernel_rfl) (i64_of (by omega) (by kernel_rfl)) ?_
    refine st_val (.int .i64 ((k : Int) + 1)) (by kernel_rfl) (by kernel_rfl) ?_
    refine wl_nil ?_
    refine th_normal ?_
    exact ⟨_, by omega, (k + 1), (fun zz => Array.getD #[v0, undef, .bool false, .pointer (some ⟨g5, 0, none⟩), .pointer (some ⟨g11, 0, none⟩), .int .i64 ((k : Int) + 1), undef, undef, undef, undef, undef, undef, undef, v0, .agg (iv (blockOf l0)), .int .i64 (k : Int), .bool true, .int .i64 (k : Int), .int .i64 ((k : Int) + 1), .int .i64 (k : Int), .int .i64 ((k : Int) % 8), .int .i64 (((k : Int) % 8) * 8), .int .i64 (k : Int), .int .i64 ((k : Int) / 8), .int .i64 ((((k : Int) % 8) * 8) + ((k : Int) / 8)), .int .i64 (k : Int), .pointer (some ⟨g5, k, none⟩), .int .i64 ((blockOf l0).getD k 0), .pointer (some ⟨g11, k % 8 * 8 + k / 8, none⟩), undef, undef, undef, undef, undef, undef, undef, undef, undef, undef, undef, undef, undef, undef, undef, undef, undef, undef, undef, undef, undef, undef, undef, undef, undef, undef, undef, undef, undef, undef, undef, undef, undef, undef, undef, undef, undef, undef, undef, undef, undef, undef, undef, undef, undef, undef, undef, undef] zz undef), ⟨by omega, (by rw [← trTo_next l0 k (by omega)]; exact M23)⟩, rfl, (by kernel_rfl)⟩
  ·
    refine st_val (.bool false) (by kernel_rfl) (bool_of (dec_f c16) (by kernel_rfl)) ?_
    refine wl_nil ?_
    refine hK20 _ _ ?_
    try clear hK20 K20
    refine wp_cond_false (by kernel_rfl) ?_
    refine wp_exit ?_
    refine th_exit ?_
    refine th_exit ?_
    refine blk_exit ?_
    refine hK14 _ _ ?_
    try clear hK14 K14
    refine wp_seq_k (fun K24 hK24 => ?_)
    have M25 : Mem NoS w W17 [(g11, .cells (iv (tr (blockOf l0))) 23 (0, 0)), (g5, .cells (iv (blockOf l0)) 23 (0, 0))] := by
      have hh := M18; rw [trTo_end l0 k (by omega)] at hh; exact hh
    refine wl_region ?_
    refine st_val (.agg (iv (blockOf l0))) (by kernel_rfl) (run_load_row 23 (.tmp 3) rfl g5 (by kernel_rfl) 23 (iv (blockOf l0)) (0, 0) _ (M25.get 1 rfl) Try.underlying23 rfl (info64 _ (blockOf_length _))) ?_
    rcases Classical.em (Lim 255 (blockOf l0)) with hL | hL
    ·
      refine st_callB M25 (.tuple #[.agg (iv (fwd (blockOf l0))), .int .i64 0]) (by kernel_rfl) (args := #[.agg (iv (blockOf l0))]) (run_value_call 12 #[(Operand.tmp 30)] _ rfl Try.func12 (by kernel_rfl) (by kernel_rfl) _ (by kernel_rfl)) (forward_good W17 (blockOf l0) (blockOf_length _) hL) ?_
      intro W26 M27
      refine st_val (.tuple #[.agg (iv (fwd (blockOf l0))), .int .i64 0]) (by kernel_rfl) (by kernel_rfl) ?_
      refine st_val (.agg (iv (fwd (blockOf l0)))) (by kernel_rfl) (by kernel_rfl) ?_
      refine st_val (.int .i64 0) (by kernel_rfl) (by kernel_rfl) ?_
      refine st_alloc M27 (.cells (iv zeros) 23 (0, 0)) (by kernel_rfl) (by kernel_rfl) ?_
      intro g28 W29 M30
      refine st_storeRow M30 0 rfl 23 (.tmp 6) (.tmp 32) (by rfl) (iv (fwd (blockOf l0))) (by kernel_rfl) (by kernel_rfl) (info64 _ (fwd_length _)) (iv_same (fwd_length _) zeros_length) (iv_one _) (by kernel_rfl) [(g28, .cells (iv (fwd (blockOf l0))) 23 (0, 0)), (g11, .cells (iv (tr (blockOf l0))) 23 (0, 0)), (g5, .cells (iv (blockOf l0)) 23 (0, 0))] rfl ?_
      intro W31 M32
      refine st_val (.int .i64 0) (by kernel_rfl) (by kernel_rfl) ?_
      refine wl_nil ?_
      refine hK24 _ _ ?_
      try clear hK24 K24
      refine wp_seq_k (fun K33 hK33 => ?_)
      refine wl_region ?_
      refine st_val (.agg (iv (tr (blockOf l0)))) (by kernel_rfl) (run_load_row 23 (.tmp 4) rfl g11 (by kernel_rfl) 23 (iv (tr (blockOf l0))) (0, 0) _ (M32.get 1 rfl) Try.underlying23 rfl (info64 _ (tr_length _))) ?_
      refine st_callB M32 (.tuple #[.agg (iv (fwd (tr (blockOf l0)))), .int .i64 0]) (by kernel_rfl) (args := #[.agg (iv (tr (blockOf l0)))]) (run_value_call 12 #[(Operand.tmp 35)] _ rfl Try.func12 (by kernel_rfl) (by kernel_rfl) _ (by kernel_rfl)) (forward_good W31 (tr (blockOf l0)) (tr_length _) (lim_tr.2 hL)) ?_
      intro W34 M35
      refine st_val (.tuple #[.agg (iv (fwd (tr (blockOf l0)))), .int .i64 0]) (by kernel_rfl) (by kernel_rfl) ?_
      refine st_val (.agg (iv (fwd (tr (blockOf l0))))) (by kernel_rfl) (by kernel_rfl) ?_
      refine st_val (.int .i64 0) (by kernel_rfl) (by kernel_rfl) ?_
      refine st_alloc M35 (.cells (iv zeros) 23 (0, 0)) (by kernel_rfl) (by kernel_rfl) ?_
      intro g36 W37 M38
      refine st_storeRow M38 0 rfl 23 (.tmp 8) (.tmp 37) (by rfl) (iv (fwd (tr (blockOf l0)))) (by kernel_rfl) (by kernel_rfl) (info64 _ (fwd_length _)) (iv_same (fwd_length _) zeros_length) (iv_one _) (by kernel_rfl) [(g36, .cells (iv (fwd (tr (blockOf l0)))) 23 (0, 0)), (g28, .cells (iv (fwd (blockOf l0))) 23 (0, 0)), (g11, .cells (iv (tr (blockOf l0))) 23 (0, 0)), (g5, .cells (iv (blockOf l0)) 23 (0, 0))] rfl ?_
      intro W39 M40
      refine st_val (.int .i64 0) (by kernel_rfl) (by kernel_rfl) ?_
      refine wl_nil ?_
      refine hK33 _ _ ?_
      try clear hK33 K33
      refine wp_frame (a' := ⟨#[v0, undef, .bool false, .pointer (some ⟨g5, 0, none⟩), .pointer (some ⟨g11, 0, none⟩), .int .i64 (k : Int), .pointer (some ⟨g28, 0, none⟩), .int .i64 0, .pointer (some ⟨g36, 0, none⟩), .int .i64 0, undef, undef, undef, v0, .agg (iv (blockOf l0)), .int .i64 (k : Int), .bool false, (u16 17), (u16 18), (u16 19), (u16 20), (u16 21), (u16 22), (u16 23), (u16 24), (u16 25), (u16 26), (u16 27), (u16 28), .tuple #[.agg (iv (fwd (blockOf l0))), .int .i64 0], .agg (iv (blockOf l0)), .tuple #[.agg (iv (fwd (blockOf l0))), .int .i64 0], .agg (iv (fwd (blockOf l0))), .int .i64 0, .tuple #[.agg (iv (fwd (tr (blockOf l0)))), .int .i64 0], .agg (iv (tr (blockOf l0))), .tuple #[.agg (iv (fwd (tr (blockOf l0)))), .int .i64 0], .agg (iv (fwd (tr (blockOf l0)))), .int .i64 0, undef, undef, undef, undef, undef, undef, undef, undef, undef, undef, undef, undef, undef, undef, undef, undef, undef, undef, undef, undef, undef, undef, undef, undef, undef, undef, undef, undef, undef, undef, undef, undef, undef, undef, undef, undef, undef, undef], []⟩) (by kernel_rfl) ?_
      refine wp_seq_k (fun K41 hK41 => ?_)
      refine wp_seq_k (fun K42 hK42 => ?_)
      refine wl_region ?_
      refine st_val (.int .i64 0) (by kernel_rfl) (by kernel_rfl) ?_
      refine st_val (.int .i64 0) (by kernel_rfl) (by kernel_rfl) ?_
      refine st_val (.bool false) (by kernel_rfl) (by kernel_rfl) ?_
      refine wl_nil ?_
      refine hK42 _ _ ?_
      try clear hK42 K42
      refine wp_cond_false (by kernel_rfl) ?_
      refine wp_skip ?_
      refine hK41 _ _ ?_
      try clear hK41 K41
      refine wp_seq_k (fun K43 hK43 => ?_)
      refine wl_seqA M40 6 [.agg (iv (blockOf l0)), .agg (iv (inv (blockOf l0))), .agg (iv (tr (blockOf l0))), .agg (iv (inv (tr (blockOf l0)))), undef, undef] [(4, .cells (iv zeros) 23 (0, 0)), (5, .cells (iv zeros) 23 (0, 0))] (by decide) (by kernel_rfl) (by kernel_rfl) rfl (by decide) (fun G44 => ?_)
      refine sqa_run (.agg (iv (blockOf l0))) (by decide) rfl rfl (by kernel_rfl) (fun w' M' => (run_load_row 23 (.tmp 3) rfl g5 (by kernel_rfl) 23 (iv (blockOf l0)) (0, 0) _ (M'.get 3 rfl) Try.underlying23 rfl (info64 _ (blockOf_length _)))) ?_
      refine sqa_call (.agg (iv (inv (blockOf l0)))) (f := 16) (args := #[.agg (iv (blockOf l0))]) (by decide) rfl rfl (by kernel_rfl) (fun w' M' => (run_value_call 16 #[(Operand.tmp 42)] _ rfl Try.func16 (by kernel_rfl) (by kernel_rfl) _ (by kernel_rfl))) (fun w' M' => inverse_walk w' (blockOf l0) (blockOf_length _)) ?_
      refine sqa_run (.agg (iv (tr (blockOf l0)))) (by decide) rfl rfl (by kernel_rfl) (fun w' M' => (run_load_row 23 (.tmp 4) rfl g11 (by kernel_rfl) 23 (iv (tr (blockOf l0))) (0, 0) _ (M'.get 2 rfl) Try.underlying23 rfl (info64 _ (tr_length _)))) ?_
      refine sqa_call (.agg (iv (inv (tr (blockOf l0))))) (f := 16) (args := #[.agg (iv (tr (blockOf l0)))]) (by decide) rfl rfl (by kernel_rfl) (fun w' M' => (run_value_call 16 #[(Operand.tmp 44)] _ rfl Try.func16 (by kernel_rfl) (by kernel_rfl) _ (by kernel_rfl))) (fun w' M' => inverse_walk w' (tr (blockOf l0)) (tr_length _)) ?_
      refine sqa_alloc (.cells (iv zeros) 23 (0, 0)) (by decide) rfl rfl (fun w' => by kernel_rfl) ?_
      refine sqa_alloc (.cells (iv zeros) 23 (0, 0)) (by decide) rfl rfl (fun w' => by kernel_rfl) ?_
      refine sqa_end (by decide) ?_
      intro W45 M46
      refine st_storeRow M46 0 rfl 23 (.tmp 10) (.tmp 43) (by rfl) (iv (inv (blockOf l0))) (by kernel_rfl) (by kernel_rfl) (info64 _ (inv_length _)) (iv_same (inv_length _) zeros_length) (iv_one _) (by kernel_rfl) [((G44 4), .cells (iv (inv (blockOf l0))) 23 (0, 0)), ((G44 5), .cells (iv zeros) 23 (0, 0)), (g36, .cells (iv (fwd (tr (blockOf l0)))) 23 (0, 0)), (g28, .cells (iv (fwd (blockOf l0))) 23 (0, 0)), (g11, .cells (iv (tr (blockOf l0))) 23 (0, 0)), (g5, .cells (iv (blockOf l0)) 23 (0, 0))] rfl ?_
      intro W47 M48
      refine st_storeRow M48 1 rfl 23 (.tmp 11) (.tmp 45) (by rfl) (iv (inv (tr (blockOf l0)))) (by kernel_rfl) (by kernel_rfl) (info64 _ (inv_length _)) (iv_same (inv_length _) zeros_length) (iv_one _) (by kernel_rfl) [((G44 4), .cells (iv (inv (blockOf l0))) 23 (0, 0)), ((G44 5), .cells (iv (inv (tr (blockOf l0)))) 23 (0, 0)), (g36, .cells (iv (fwd (tr (blockOf l0)))) 23 (0, 0)), (g28, .cells (iv (fwd (blockOf l0))) 23 (0, 0)), (g11, .cells (iv (tr (blockOf l0))) 23 (0, 0)), (g5, .cells (iv (blockOf l0)) 23 (0, 0))] rfl ?_
      intro W49 M50
      refine wl_nil ?_
      refine hK43 _ _ ?_
      try clear hK43 K43
      refine wp_seq_k (fun K51 hK51 => ?_)
      refine wp_seq_k (fun K52 hK52 => ?_)
      refine wl_region ?_
      refine st_val (.int .i64 0) (by kernel_rfl) (by kernel_rfl) ?_
      refine wl_nil ?_
      refine hK52 _ _ ?_
      try clear hK52 K52
      refine wp_block ?_
      refine wp_loop_ghost (fun gn a' w' => ∃ (n : Nat) (u53 : Nat → Value), ((n ≤ 64) ∧ Mem NoS w w' [((G44 4), .cells (iv (inv (blockOf l0))) 23 (0, 0)), ((G44 5), .cells (iv (inv (tr (blockOf l0)))) 23 (0, 0)), (g36, .cells (iv (fwd (tr (blockOf l0)))) 23 (0, 0)), (g28, .cells (iv (fwd (blockOf l0))) 23 (0, 0)), (g11, .cells (iv (tr (blockOf l0))) 23 (0, 0)), (g5, .cells (iv (blockOf l0)) 23 (0, 0))]) ∧ gn = 64 - n ∧ a' = ⟨#[v0, undef, (u53 2), .pointer (some ⟨g5, 0, none⟩), .pointer (some ⟨g11, 0, none⟩), .int .i64 (k : Int), .pointer (some ⟨g28, 0, none⟩), .int .i64 0, .pointer (some ⟨g36, 0, none⟩), .int .i64 0, .pointer (some ⟨(G44 4), 0, none⟩), .pointer (some ⟨(G44 5), 0, none⟩), .int .i64 (n : Int), v0, .agg (iv (blockOf l0)), .int .i64 (k : Int), .bool false, (u16 17), (u16 18), (u16 19), (u16 20), (u16 21), (u16 22), (u16 23), (u16 24), (u16 25), (u16 26), (u16 27), (u16 28), .tuple #[.agg (iv (fwd (blockOf l0))), .int .i64 0], .agg (iv (blockOf l0)), .tuple #[.agg (iv (fwd (blockOf l0))), .int .i64 0], .agg (iv (fwd (blockOf l0))), .int .i64 0, .tuple #[.agg (iv (fwd (tr (blockOf l0)))), .int .i64 0], .agg (iv (tr (blockOf l0))), .tuple #[.agg (iv (fwd (tr (blockOf l0)))), .int .i64 0], .agg (iv (fwd (tr (blockOf l0)))), .int .i64 0, .int .i64 0, .int .i64 0, .bool false, .agg (iv (blockOf l0)), .agg (iv (inv (blockOf l0))), .agg (iv (tr (blockOf l0))), .agg (iv (inv (tr (blockOf l0)))), (u53 46), (u53 47), (u53 48), (u53 49), (u53 50), (u53 51), (u53 52), (u53 53), (u53 54), (u53 55), (u53 56), (u53 57), (u53 58), (u53 59), (u53 60), (u53 61), (u53 62), (u53 63), (u53 64), (u53 65), (u53 66), (u53 67), (u53 68), (u53 69), (u53 70), (u53 71), (u53 72), (u53 73), (u53 74), (u53 75), undef], []⟩) _ ⟨0, (fun zz => Array.getD #[v0, undef, .bool false, .pointer (some ⟨g5, 0, none⟩), .pointer (some ⟨g11, 0, none⟩), .int .i64 (k : Int), .pointer (some ⟨g28, 0, none⟩), .int .i64 0, .pointer (some ⟨g36, 0, none⟩), .int .i64 0, .pointer (some ⟨(G44 4), 0, none⟩), .pointer (some ⟨(G44 5), 0, none⟩), .int .i64 0, v0, .agg (iv (blockOf l0)), .int .i64 (k : Int), .bool false, (u16 17), (u16 18), (u16 19), (u16 20), (u16 21), (u16 22), (u16 23), (u16 24), (u16 25), (u16 26), (u16 27), (u16 28), .tuple #[.agg (iv (fwd (blockOf l0))), .int .i64 0], .agg (iv (blockOf l0)), .tuple #[.agg (iv (fwd (blockOf l0))), .int .i64 0], .agg (iv (fwd (blockOf l0))), .int .i64 0, .tuple #[.agg (iv (fwd (tr (blockOf l0)))), .int .i64 0], .agg (iv (tr (blockOf l0))), .tuple #[.agg (iv (fwd (tr (blockOf l0)))), .int .i64 0], .agg (iv (fwd (tr (blockOf l0)))), .int .i64 0, .int .i64 0, .int .i64 0, .bool false, .agg (iv (blockOf l0)), .agg (iv (inv (blockOf l0))), .agg (iv (tr (blockOf l0))), .agg (iv (inv (tr (blockOf l0)))), undef, undef, undef, undef, undef, undef, undef, undef, undef, undef, undef, undef, undef, undef, undef, undef, undef, undef, undef, undef, undef, undef, undef, undef, undef, undef, undef, undef, undef, undef, undef] zz undef), ⟨by omega, M50⟩, rfl, (by kernel_rfl)⟩ ?_
      rintro gn _ W54 ⟨n, u53, ⟨r2, M55⟩, rfl, rfl⟩
      refine wp_seq_k (fun K56 hK56 => ?_)
      refine wp_seq_k (fun K57 hK57 => ?_)
      refine wl_region ?_
      refine st_val (.int .i64 (n : Int)) (by kernel_rfl) (by kernel_rfl) ?_
      rcases Decidable.em (((n : Int) : Int) < 64) with c47 | c47
      ·
        refine st_val (.bool true) (by kernel_rfl) (bool_of (dec_t c47) (by kernel_rfl)) ?_
        refine wl_nil ?_
        refine hK57 _ _ ?_
        try clear hK57 K57
        refine wp_cond_true (by kernel_rfl) ?_
        refine wp_skip ?_
        refine hK56 _ _ ?_
        try clear hK56 K56
        refine wp_seq_k (fun K58 hK58 => ?_)
        refine wp_block ?_
        refine wp_seq_k (fun K59 hK59 => ?_)
        refine wl_seq 26 (fun w' => Mem NoS w w' [((G44 4), .cells (iv (inv (blockOf l0))) 23 (0, 0)), ((G44 5), .cells (iv (inv (tr (blockOf l0)))) 23 (0, 0)), (g36, .cells (iv (fwd (tr (blockOf l0)))) 23 (0, 0)), (g28, .cells (iv (fwd (blockOf l0))) 23 (0, 0)), (g11, .cells (iv (tr (blockOf l0))) 23 (0, 0)), (g5, .cells (iv (blockOf l0)) 23 (0, 0))]) (by decide) (by kernel_rfl) (by kernel_rfl) M55.drew ?_
        refine seq_run (v := .int .i64 (n : Int)) (by decide) (by kernel_rfl) (fun w' M' => (by kernel_rfl)) ?_
        refine seq_run (v := .int .i64 ((n : Int) % 8)) (by decide) (by kernel_rfl) (fun w' M' => (int_of (rem_of (n : Int) 8 (by omega)) (by kernel_rfl))) ?_
        refine seq_run (v := .int .i64 (((n : Int) % 8) * 8)) (by decide) (by kernel_rfl) (fun w' M' => (i64_of (by omega) (by kernel_rfl))) ?_
        refine seq_run (v := .int .i64 (n : Int)) (by decide) (by kernel_rfl) (fun w' M' => (by kernel_rfl)) ?_
        refine seq_run (v := .int .i64 ((n : Int) / 8)) (by decide) (by kernel_rfl) (fun w' M' => (int_of (quo_of (n : Int) 8 (by omega) (by omega) (by omega)) (by kernel_rfl))) ?_
        refine seq_run (v := .int .i64 ((((n : Int) % 8) * 8) + ((n : Int) / 8))) (by decide) (by kernel_rfl) (fun w' M' => (i64_of (by omega) (by kernel_rfl))) ?_
        refine seq_run (v := .pointer (some ⟨g36, n % 8 * 8 + n / 8, none⟩)) (by decide) (by kernel_rfl) (fun w' M' => (run_indexAddr 23 (.tmp 8) (.tmp 55) rfl ⟨g36, 0, none⟩ .i64 (n % 8 * 8 + n / 8) (by kernel_rfl) (by kernel_rfl) Try.underlying23 1 (by kernel_rfl) (by omega) ⟨g36, n % 8 * 8 + n / 8, none⟩ (addr_at0 _ _))) ?_
        refine seq_run (v := .int .i64 ((fwd (tr (blockOf l0))).getD (n % 8 * 8 + n / 8) 0)) (by decide) (by kernel_rfl) (fun w' M' => (run_load_cell 3 (.tmp 56) rfl ⟨g36, n % 8 * 8 + n / 8, none⟩ (by kernel_rfl) _ (M'.cell 2 rfl (n % 8 * 8 + n / 8) _ (iv_get (fwd (tr (blockOf l0))) (n % 8 * 8 + n / 8) (by rw [(fwd_length _)]; omega))) (by kernel_rfl))) ?_
        refine seq_run (v := .int .i64 (n : Int)) (by decide) (by kernel_rfl) (fun w' M' => (by kernel_rfl)) ?_
        refine seq_run (v := .pointer (some ⟨g28, n, none⟩)) (by decide) (by kernel_rfl) (fun w' M' => (run_indexAddr 23 (.tmp 6) (.tmp 58) rfl ⟨g28, 0, none⟩ .i64 n (by kernel_rfl) (by kernel_rfl) Try.underlying23 1 (by kernel_rfl) (by omega) ⟨g28, n, none⟩ (addr_at0 _ _))) ?_
        refine seq_run (v := .int .i64 ((fwd (blockOf l0)).getD n 0)) (by decide) (by kernel_rfl) (fun w' M' => (run_load_cell 3 (.tmp 59) rfl ⟨g28, n, none⟩ (by kernel_rfl) _ (M'.cell 3 rfl n _ (iv_get (fwd (blockOf l0)) n (by rw [(fwd_length _)]; omega))) (by kernel_rfl))) ?_
        refine seq_run (v := .bool false) (by decide) (by kernel_rfl) (fun w' M' => (bool_of (neq_f (show ((fwd (tr (blockOf l0))).getD (n % 8 * 8 + n / 8) 0 : Int) = (fwd (blockOf l0)).getD n 0 from tr_fwd l0 n (by omega))) (by kernel_rfl))) ?_
        refine seq_run (v := .bool false) (by decide) (by kernel_rfl) (fun w' M' => (by kernel_rfl)) ?_
        refine seq_run (v := .int .i64 (n : Int)) (by decide) (by kernel_rfl) (fun w' M' => (by kernel_rfl)) ?_
        refine seq_run (v := .int .i64 ((n : Int) % 8)) (by decide) (by kernel_rfl) (fun w' M' => (int_of (rem_of (n : Int) 8 (by omega)) (by kernel_rfl))) ?_
        refine seq_run (v := .int .i64 (((n : Int) % 8) * 8)) (by decide) (by kernel_rfl) (fun w' M' => (i64_of (by omega) (by kernel_rfl))) ?_
        refine seq_run (v := .int .i64 (n : Int)) (by decide) (by kernel_rfl) (fun w' M' => (by kernel_rfl)) ?_
        refine seq_run (v := .int .i64 ((n : Int) / 8)) (by decide) (by kernel_rfl) (fun w' M' => (int_of (quo_of (n : Int) 8 (by omega) (by omega) (by omega)) (by kernel_rfl))) ?_
        refine seq_run (v := .int .i64 ((((n : Int) % 8) * 8) + ((n : Int) / 8))) (by decide) (by kernel_rfl) (fun w' M' => (i64_of (by omega) (by kernel_rfl))) ?_
        refine seq_run (v := .pointer (some ⟨(G44 5), n % 8 * 8 + n / 8, none⟩)) (by decide) (by kernel_rfl) (fun w' M' => (run_indexAddr 23 (.tmp 11) (.tmp 68) rfl ⟨(G44 5), 0, none⟩ .i64 (n % 8 * 8 + n / 8) (by kernel_rfl) (by kernel_rfl) Try.underlying23 1 (by kernel_rfl) (by omega) ⟨(G44 5), n % 8 * 8 + n / 8, none⟩ (addr_at0 _ _))) ?_
        refine seq_run (v := .int .i64 ((inv (tr (blockOf l0))).getD (n % 8 * 8 + n / 8) 0)) (by decide) (by kernel_rfl) (fun w' M' => (run_load_cell 3 (.tmp 69) rfl ⟨(G44 5), n % 8 * 8 + n / 8, none⟩ (by kernel_rfl) _ (M'.cell 1 rfl (n % 8 * 8 + n / 8) _ (iv_get (inv (tr (blockOf l0))) (n % 8 * 8 + n / 8) (by rw [(inv_length _)]; omega))) (by kernel_rfl))) ?_
        refine seq_run (v := .int .i64 (n : Int)) (by decide) (by kernel_rfl) (fun w' M' => (by kernel_rfl)) ?_
        refine seq_run (v := .pointer (some ⟨(G44 4), n, none⟩)) (by decide) (by kernel_rfl) (fun w' M' => (run_indexAddr 23 (.tmp 10) (.tmp 71) rfl ⟨(G44 4), 0, none⟩ .i64 n (by kernel_rfl) (by kernel_rfl) Try.underlying23 1 (by kernel_rfl) (by omega) ⟨(G44 4), n, none⟩ (addr_at0 _ _))) ?_
        refine seq_run (v := .int .i64 ((inv (blockOf l0)).getD n 0)) (by decide) (by kernel_rfl) (fun w' M' => (run_load_cell 3 (.tmp 72) rfl ⟨(G44 4), n, none⟩ (by kernel_rfl) _ (M'.cell 0 rfl n _ (iv_get (inv (blockOf l0)) n (by rw [(inv_length _)]; omega))) (by kernel_rfl))) ?_
        refine seq_run (v := .bool false) (by decide) (by kernel_rfl) (fun w' M' => (bool_of (neq_f (show ((inv (tr (blockOf l0))).getD (n % 8 * 8 + n / 8) 0 : Int) = (inv (blockOf l0)).getD n 0 from tr_inv l0 n (by omega))) (by kernel_rfl))) ?_
        refine seq_run (v := .bool false) (by decide) (by kernel_rfl) (fun w' M' => (by kernel_rfl)) ?_
        refine seq_end (by decide) ?_
        intro W60 M61
        refine wl_nil ?_
        refine hK59 _ _ ?_
        try clear hK59 K59
        refine wp_frame (a' := ⟨#[v0, undef, (u53 2), .pointer (some ⟨g5, 0, none⟩), .pointer (some ⟨g11, 0, none⟩), .int .i64 (k : Int), .pointer (some ⟨g28, 0, none⟩), .int .i64 0, .pointer (some ⟨g36, 0, none⟩), .int .i64 0, .pointer (some ⟨(G44 4), 0, none⟩), .pointer (some ⟨(G44 5), 0, none⟩), .int .i64 (n : Int), v0, .agg (iv (blockOf l0)), .int .i64 (k : Int), .bool false, (u16 17), (u16 18), (u16 19), (u16 20), (u16 21), (u16 22), (u16 23), (u16 24), (u16 25), (u16 26), (u16 27), (u16 28), .tuple #[.agg (iv (fwd (blockOf l0))), .int .i64 0], .agg (iv (blockOf l0)), .tuple #[.agg (iv (fwd (blockOf l0))), .int .i64 0], .agg (iv (fwd (blockOf l0))), .int .i64 0, .tuple #[.agg (iv (fwd (tr (blockOf l0)))), .int .i64 0], .agg (iv (tr (blockOf l0))), .tuple #[.agg (iv (fwd (tr (blockOf l0)))), .int .i64 0], .agg (iv (fwd (tr (blockOf l0)))), .int .i64 0, .int .i64 0, .int .i64 0, .bool false, .agg (iv (blockOf l0)), .agg (iv (inv (blockOf l0))), .agg (iv (tr (blockOf l0))), .agg (iv (inv (tr (blockOf l0)))), .int .i64 (n : Int), .bool true, (u53 48), (u53 49), .int .i64 (n : Int), .int .i64 ((n : Int) % 8), .int .i64 (((n : Int) % 8) * 8), .int .i64 (n : Int), .int .i64 ((n : Int) / 8), .int .i64 ((((n : Int) % 8) * 8) + ((n : Int) / 8)), .pointer (some ⟨g36, n % 8 * 8 + n / 8, none⟩), .int .i64 ((fwd (tr (blockOf l0))).getD (n % 8 * 8 + n / 8) 0), .int .i64 (n : Int), .pointer (some ⟨g28, n, none⟩), .int .i64 ((fwd (blockOf l0)).getD n 0), .bool false, .bool false, .int .i64 (n : Int), .int .i64 ((n : Int) % 8), .int .i64 (((n : Int) % 8) * 8), .int .i64 (n : Int), .int .i64 ((n : Int) / 8), .int .i64 ((((n : Int) % 8) * 8) + ((n : Int) / 8)), .pointer (some ⟨(G44 5), n % 8 * 8 + n / 8, none⟩), .int .i64 ((inv (tr (blockOf l0))).getD (n % 8 * 8 + n / 8) 0), .int .i64 (n : Int), .pointer (some ⟨(G44 4), n, none⟩), .int .i64 ((inv (blockOf l0)).getD n 0), .bool false, .bool false, undef], []⟩) (by kernel_rfl) ?_
        refine wp_cond_false (by kernel_rfl) ?_
        refine wp_skip ?_
        refine blk_normal ?_
        refine hK58 _ _ ?_
        try clear hK58 K58
        refine wl_region ?_
        refine st_val (.int .i64 (n : Int)) (by kernel_rfl) (by kernel_rfl) ?_
        refine st_val (.int .i64 ((n : Int) + 1)) (by kernel_rfl) (i64_of (by omega) (by kernel_rfl)) ?_
        refine st_val (.int .i64 ((n : Int) + 1)) (by kernel_rfl) (by kernel_rfl) ?_
        refine wl_nil ?_
        refine th_normal ?_
        exact ⟨_, by omega, (n + 1), (fun zz => Array.getD #[v0, undef, (u53 2), .pointer (some ⟨g5, 0, none⟩), .pointer (some ⟨g11, 0, none⟩), .int .i64 (k : Int), .pointer (some ⟨g28, 0, none⟩), .int .i64 0, .pointer (some ⟨g36, 0, none⟩), .int .i64 0, .pointer (some ⟨(G44 4), 0, none⟩), .pointer (some ⟨(G44 5), 0, none⟩), .int .i64 ((n : Int) + 1), v0, .agg (iv (blockOf l0)), .int .i64 (k : Int), .bool false, (u16 17), (u16 18), (u16 19), (u16 20), (u16 21), (u16 22), (u16 23), (u16 24), (u16 25), (u16 26), (u16 27), (u16 28), .tuple #[.agg (iv (fwd (blockOf l0))), .int .i64 0], .agg (iv (blockOf l0)), .tuple #[.agg (iv (fwd (blockOf l0))), .int .i64 0], .agg (iv (fwd (blockOf l0))), .int .i64 0, .tuple #[.agg (iv (fwd (tr (blockOf l0)))), .int .i64 0], .agg (iv (tr (blockOf l0))), .tuple #[.agg (iv (fwd (tr (blockOf l0)))), .int .i64 0], .agg (iv (fwd (tr (blockOf l0)))), .int .i64 0, .int .i64 0, .int .i64 0, .bool false, .agg (iv (blockOf l0)), .agg (iv (inv (blockOf l0))), .agg (iv (tr (blockOf l0))), .agg (iv (inv (tr (blockOf l0)))), .int .i64 (n : Int), .bool true, .int .i64 (n : Int), .int .i64 ((n : Int) + 1), .int .i64 (n : Int), .int .i64 ((n : Int) % 8), .int .i64 (((n : Int) % 8) * 8), .int .i64 (n : Int), .int .i64 ((n : Int) / 8), .int .i64 ((((n : Int) % 8) * 8) + ((n : Int) / 8)), .pointer (some ⟨g36, n % 8 * 8 + n / 8, none⟩), .int .i64 ((fwd (tr (blockOf l0))).getD (n % 8 * 8 + n / 8) 0), .int .i64 (n : Int), .pointer (some ⟨g28, n, none⟩), .int .i64 ((fwd (blockOf l0)).getD n 0), .bool false, .bool false, .int .i64 (n : Int), .int .i64 ((n : Int) % 8), .int .i64 (((n : Int) % 8) * 8), .int .i64 (n : Int), .int .i64 ((n : Int) / 8), .int .i64 ((((n : Int) % 8) * 8) + ((n : Int) / 8)), .pointer (some ⟨(G44 5), n % 8 * 8 + n / 8, none⟩), .int .i64 ((inv (tr (blockOf l0))).getD (n % 8 * 8 + n / 8) 0), .int .i64 (n : Int), .pointer (some ⟨(G44 4), n, none⟩), .int .i64 ((inv (blockOf l0)).getD n 0), .bool false, .bool false, undef] zz undef), ⟨by omega, M61⟩, rfl, (by kernel_rfl)⟩
      ·
        refine st_val (.bool false) (by kernel_rfl) (bool_of (dec_f c47) (by kernel_rfl)) ?_
        refine wl_nil ?_
        refine hK57 _ _ ?_
        try clear hK57 K57
        refine wp_cond_false (by kernel_rfl) ?_
        refine wp_exit ?_
        refine th_exit ?_
        refine th_exit ?_
        refine blk_exit ?_
        refine hK51 _ _ ?_
        try clear hK51 K51
        refine wp_seq_k (fun K62 hK62 => ?_)
        refine wl_region ?_
        refine st_callB M55 (.bool true) (by kernel_rfl) (args := #[]) (run_value_call 15 #[] _ rfl Try.func15 (by kernel_rfl) (by kernel_rfl) _ (by kernel_rfl)) (awake_walk W54) ?_
        intro W63 M64
        refine st_val (.bool true) (by kernel_rfl) (by kernel_rfl) ?_
        refine wl_nil ?_
        refine hK62 _ _ ?_
        try clear hK62 K62
        refine wp_ret ?_
        exact done1 2 (.bool true) (by kernel_rfl) (by kernel_rfl) (by kernel_rfl) ⟨rfl, M64.toBelow⟩
    ·
      refine st_callB M25 (.tuple #[.agg (iv zeros), .int .i64 2]) (by kernel_rfl) (args := #[.agg (iv (blockOf l0))]) (run_value_call 12 #[(Operand.tmp 30)] _ rfl Try.func12 (by kernel_rfl) (by kernel_rfl) _ (by kernel_rfl)) (forward_bad W17 (blockOf l0) (blockOf_length _) hL) ?_
      intro W65 M66
      refine st_val (.tuple #[.agg (iv zeros), .int .i64 2]) (by kernel_rfl) (by kernel_rfl) ?_
      refine st_val (.agg (iv zeros)) (by kernel_rfl) (by kernel_rfl) ?_
      refine st_val (.int .i64 2) (by kernel_rfl) (by kernel_rfl) ?_
      refine st_alloc M66 (.cells (iv zeros) 23 (0, 0)) (by kernel_rfl) (by kernel_rfl) ?_
      intro g67 W68 M69
      refine st_storeRow M69 0 rfl 23 (.tmp 6) (.tmp 32) (by rfl) (iv zeros) (by kernel_rfl) (by kernel_rfl) (info64 _ zeros_length) (iv_same zeros_length zeros_length) (iv_one _) (by kernel_rfl) [(g67, .cells (iv zeros) 23 (0, 0)), (g11, .cells (iv (tr (blockOf l0))) 23 (0, 0)), (g5, .cells (iv (blockOf l0)) 23 (0, 0))] rfl ?_
      intro W70 M71
      refine st_val (.int .i64 2) (by kernel_rfl) (by kernel_rfl) ?_
      refine wl_nil ?_
      refine hK24 _ _ ?_
      try clear hK24 K24
      refine wp_seq_k (fun K72 hK72 => ?_)
      refine wl_region ?_
      refine st_val (.agg (iv (tr (blockOf l0)))) (by kernel_rfl) (run_load_row 23 (.tmp 4) rfl g11 (by kernel_rfl) 23 (iv (tr (blockOf l0))) (0, 0) _ (M71.get 1 rfl) Try.underlying23 rfl (info64 _ (tr_length _))) ?_
      refine st_callB M71 (.tuple #[.agg (iv zeros), .int .i64 2]) (by kernel_rfl) (args := #[.agg (iv (tr (blockOf l0)))]) (run_value_call 12 #[(Operand.tmp 35)] _ rfl Try.func12 (by kernel_rfl) (by kernel_rfl) _ (by kernel_rfl)) (forward_bad W70 (tr (blockOf l0)) (tr_length _) (fun c => hL (lim_tr.1 c))) ?_
      intro W73 M74
      refine st_val (.tuple #[.agg (iv zeros), .int .i64 2]) (by kernel_rfl) (by kernel_rfl) ?_
      refine st_val (.agg (iv zeros)) (by kernel_rfl) (by kernel_rfl) ?_
      refine st_val (.int .i64 2) (by kernel_rfl) (by kernel_rfl) ?_
      refine st_alloc M74 (.cells (iv zeros) 23 (0, 0)) (by kernel_rfl) (by kernel_rfl) ?_
      intro g75 W76 M77
      refine st_storeRow M77 0 rfl 23 (.tmp 8) (.tmp 37) (by rfl) (iv zeros) (by kernel_rfl) (by kernel_rfl) (info64 _ zeros_length) (iv_same zeros_length zeros_length) (iv_one _) (by kernel_rfl) [(g75, .cells (iv zeros) 23 (0, 0)), (g67, .cells (iv zeros) 23 (0, 0)), (g11, .cells (iv (tr (blockOf l0))) 23 (0, 0)), (g5, .cells (iv (blockOf l0)) 23 (0, 0))] rfl ?_
      intro W78 M79
      refine st_val (.int .i64 2) (by kernel_rfl) (by kernel_rfl) ?_
      refine wl_nil ?_
      refine hK72 _ _ ?_
      try clear hK72 K72
      refine wp_frame (a' := ⟨#[v0, undef, .bool false, .pointer (some ⟨g5, 0, none⟩), .pointer (some ⟨g11, 0, none⟩), .int .i64 (k : Int), .pointer (some ⟨g67, 0, none⟩), .int .i64 2, .pointer (some ⟨g75, 0, none⟩), .int .i64 2, undef, undef, undef, v0, .agg (iv (blockOf l0)), .int .i64 (k : Int), .bool false, (u16 17), (u16 18), (u16 19), (u16 20), (u16 21), (u16 22), (u16 23), (u16 24), (u16 25), (u16 26), (u16 27), (u16 28), .tuple #[.agg (iv zeros), .int .i64 2], .agg (iv (blockOf l0)), .tuple #[.agg (iv zeros), .int .i64 2], .agg (iv zeros), .int .i64 2, .tuple #[.agg (iv zeros), .int .i64 2], .agg (iv (tr (blockOf l0))), .tuple #[.agg (iv zeros), .int .i64 2], .agg (iv zeros), .int .i64 2, undef, undef, undef, undef, undef, undef, undef, undef, undef, undef, undef, undef, undef, undef, undef, undef, undef, undef, undef, undef, undef, undef, undef, undef, undef, undef, undef, undef, undef, undef, undef, undef, undef, undef, undef, undef, undef, undef], []⟩) (by kernel_rfl) ?_
      refine wp_seq_k (fun K80 hK80 => ?_)
      refine wp_seq_k (fun K81 hK81 => ?_)
      refine wl_region ?_
      refine st_val (.int .i64 2) (by kernel_rfl) (by kernel_rfl) ?_
      refine st_val (.int .i64 2) (by kernel_rfl) (by kernel_rfl) ?_
      refine st_val (.bool false) (by kernel_rfl) (by kernel_rfl) ?_
      refine wl_nil ?_
      refine hK81 _ _ ?_
      try clear hK81 K81
      refine wp_cond_false (by kernel_rfl) ?_
      refine wp_skip ?_
      refine hK80 _ _ ?_
      try clear hK80 K80
      refine wp_seq_k (fun K82 hK82 => ?_)
      refine wl_seqA M79 6 [.agg (iv (blockOf l0)), .agg (iv (inv (blockOf l0))), .agg (iv (tr (blockOf l0))), .agg (iv (inv (tr (blockOf l0)))), undef, undef] [(4, .cells (iv zeros) 23 (0, 0)), (5, .cells (iv zeros) 23 (0, 0))] (by decide) (by kernel_rfl) (by kernel_rfl) rfl (by decide) (fun G83 => ?_)
      refine sqa_run (.agg (iv (blockOf l0))) (by decide) rfl rfl (by kernel_rfl) (fun w' M' => (run_load_row 23 (.tmp 3) rfl g5 (by kernel_rfl) 23 (iv (blockOf l0)) (0, 0) _ (M'.get 3 rfl) Try.underlying23 rfl (info64 _ (blockOf_length _)))) ?_
      refine sqa_call (.agg (iv (inv (blockOf l0)))) (f := 16) (args := #[.agg (iv (blockOf l0))]) (by decide) rfl rfl (by kernel_rfl) (fun w' M' => (run_value_call 16 #[(Operand.tmp 42)] _ rfl Try.func16 (by kernel_rfl) (by kernel_rfl) _ (by kernel_rfl))) (fun w' M' => inverse_walk w' (blockOf l0) (blockOf_length _)) ?_
      refine sqa_run (.agg (iv (tr (blockOf l0)))) (by decide) rfl rfl (by kernel_rfl) (fun w' M' => (run_load_row 23 (.tmp 4) rfl g11 (by kernel_rfl) 23 (iv (tr (blockOf l0))) (0, 0) _ (M'.get 2 rfl) Try.underlying23 rfl (info64 _ (tr_length _)))) ?_
      refine sqa_call (.agg (iv (inv (tr (blockOf l0))))) (f := 16) (args := #[.agg (iv (tr (blockOf l0)))]) (by decide) rfl rfl (by kernel_rfl) (fun w' M' => (run_value_call 16 #[(Operand.tmp 44)] _ rfl Try.func16 (by kernel_rfl) (by kernel_rfl) _ (by kernel_rfl))) (fun w' M' => inverse_walk w' (tr (blockOf l0)) (tr_length _)) ?_
      refine sqa_alloc (.cells (iv zeros) 23 (0, 0)) (by decide) rfl rfl (fun w' => by kernel_rfl) ?_
      refine sqa_alloc (.cells (iv zeros) 23 (0, 0)) (by decide) rfl rfl (fun w' => by kernel_rfl) ?_
      refine sqa_end (by decide) ?_
      intro W84 M85
      refine st_storeRow M85 0 rfl 23 (.tmp 10) (.tmp 43) (by rfl) (iv (inv (blockOf l0))) (by kernel_rfl) (by kernel_rfl) (info64 _ (inv_length _)) (iv_same (inv_length _) zeros_length) (iv_one _) (by kernel_rfl) [((G83 4), .cells (iv (inv (blockOf l0))) 23 (0, 0)), ((G83 5), .cells (iv zeros) 23 (0, 0)), (g75, .cells (iv zeros) 23 (0, 0)), (g67, .cells (iv zeros) 23 (0, 0)), (g11, .cells (iv (tr (blockOf l0))) 23 (0, 0)), (g5, .cells (iv (blockOf l0)) 23 (0, 0))] rfl ?_
      intro W86 M87
      refine st_storeRow M87 1 rfl 23 (.tmp 11) (.tmp 45) (by rfl) (iv (inv (tr (blockOf l0)))) (by kernel_rfl) (by kernel_rfl) (info64 _ (inv_length _)) (iv_same (inv_length _) zeros_length) (iv_one _) (by kernel_rfl) [((G83 4), .cells (iv (inv (blockOf l0))) 23 (0, 0)), ((G83 5), .cells (iv (inv (tr (blockOf l0)))) 23 (0, 0)), (g75, .cells (iv zeros) 23 (0, 0)), (g67, .cells (iv zeros) 23 (0, 0)), (g11, .cells (iv (tr (blockOf l0))) 23 (0, 0)), (g5, .cells (iv (blockOf l0)) 23 (0, 0))] rfl ?_
      intro W88 M89
      refine wl_nil ?_
      refine hK82 _ _ ?_
      try clear hK82 K82
      refine wp_seq_k (fun K90 hK90 => ?_)
      refine wp_seq_k (fun K91 hK91 => ?_)
      refine wl_region ?_
      refine st_val (.int .i64 0) (by kernel_rfl) (by kernel_rfl) ?_
      refine wl_nil ?_
      refine hK91 _ _ ?_
      try clear hK91 K91
      refine wp_block ?_
      refine wp_loop_ghost (fun gn a' w' => ∃ (n : Nat) (u92 : Nat → Value), ((n ≤ 64) ∧ Mem NoS w w' [((G83 4), .cells (iv (inv (blockOf l0))) 23 (0, 0)), ((G83 5), .cells (iv (inv (tr (blockOf l0)))) 23 (0, 0)), (g75, .cells (iv zeros) 23 (0, 0)), (g67, .cells (iv zeros) 23 (0, 0)), (g11, .cells (iv (tr (blockOf l0))) 23 (0, 0)), (g5, .cells (iv (blockOf l0)) 23 (0, 0))]) ∧ gn = 64 - n ∧ a' = ⟨#[v0, undef, (u92 2), .pointer (some ⟨g5, 0, none⟩), .pointer (some ⟨g11, 0, none⟩), .int .i64 (k : Int), .pointer (some ⟨g67, 0, none⟩), .int .i64 2, .pointer (some ⟨g75, 0, none⟩), .int .i64 2, .pointer (some ⟨(G83 4), 0, none⟩), .pointer (some ⟨(G83 5), 0, none⟩), .int .i64 (n : Int), v0, .agg (iv (blockOf l0)), .int .i64 (k : Int), .bool false, (u16 17), (u16 18), (u16 19), (u16 20), (u16 21), (u16 22), (u16 23), (u16 24), (u16 25), (u16 26), (u16 27), (u16 28), .tuple #[.agg (iv zeros), .int .i64 2], .agg (iv (blockOf l0)), .tuple #[.agg (iv zeros), .int .i64 2], .agg (iv zeros), .int .i64 2, .tuple #[.agg (iv zeros), .int .i64 2], .agg (iv (tr (blockOf l0))), .tuple #[.agg (iv zeros), .int .i64 2], .agg (iv zeros), .int .i64 2, .int .i64 2, .int .i64 2, .bool false, .agg (iv (blockOf l0)), .agg (iv (inv (blockOf l0))), .agg (iv (tr (blockOf l0))), .agg (iv (inv (tr (blockOf l0)))), (u92 46), (u92 47), (u92 48), (u92 49), (u92 50), (u92 51), (u92 52), (u92 53), (u92 54), (u92 55), (u92 56), (u92 57), (u92 58), (u92 59), (u92 60), (u92 61), (u92 62), (u92 63), (u92 64), (u92 65), (u92 66), (u92 67), (u92 68), (u92 69), (u92 70), (u92 71), (u92 72), (u92 73), (u92 74), (u92 75), undef], []⟩) _ ⟨0, (fun zz => Array.getD #[v0, undef, .bool false, .pointer (some ⟨g5, 0, none⟩), .pointer (some ⟨g11, 0, none⟩), .int .i64 (k : Int), .pointer (some ⟨g67, 0, none⟩), .int .i64 2, .pointer (some ⟨g75, 0, none⟩), .int .i64 2, .pointer (some ⟨(G83 4), 0, none⟩), .pointer (some ⟨(G83 5), 0, none⟩), .int .i64 0, v0, .agg (iv (blockOf l0)), .int .i64 (k : Int), .bool false, (u16 17), (u16 18), (u16 19), (u16 20), (u16 21), (u16 22), (u16 23), (u16 24), (u16 25), (u16 26), (u16 27), (u16 28), .tuple #[.agg (iv zeros), .int .i64 2], .agg (iv (blockOf l0)), .tuple #[.agg (iv zeros), .int .i64 2], .agg (iv zeros), .int .i64 2, .tuple #[.agg (iv zeros), .int .i64 2], .agg (iv (tr (blockOf l0))), .tuple #[.agg (iv zeros), .int .i64 2], .agg (iv zeros), .int .i64 2, .int .i64 2, .int .i64 2, .bool false, .agg (iv (blockOf l0)), .agg (iv (inv (blockOf l0))), .agg (iv (tr (blockOf l0))), .agg (iv (inv (tr (blockOf l0)))), undef, undef, undef, undef, undef, undef, undef, undef, undef, undef, undef, undef, undef, undef, undef, undef, undef, undef, undef, undef, undef, undef, undef, undef, undef, undef, undef, undef, undef, undef, undef] zz undef), ⟨by omega, M89⟩, rfl, (by kernel_rfl)⟩ ?_
      rintro gn _ W93 ⟨n, u92, ⟨r2, M94⟩, rfl, rfl⟩
      refine wp_seq_k (fun K95 hK95 => ?_)
      refine wp_seq_k (fun K96 hK96 => ?_)
      refine wl_region ?_
      refine st_val (.int .i64 (n : Int)) (by kernel_rfl) (by kernel_rfl) ?_
      rcases Decidable.em (((n : Int) : Int) < 64) with c47 | c47
      ·
        refine st_val (.bool true) (by kernel_rfl) (bool_of (dec_t c47) (by kernel_rfl)) ?_
        refine wl_nil ?_
        refine hK96 _ _ ?_
        try clear hK96 K96
        refine wp_cond_true (by kernel_rfl) ?_
        refine wp_skip ?_
        refine hK95 _ _ ?_
        try clear hK95 K95
        refine wp_seq_k (fun K97 hK97 => ?_)
        refine wp_block ?_
        refine wp_seq_k (fun K98 hK98 => ?_)
        refine wl_seq 26 (fun w' => Mem NoS w w' [((G83 4), .cells (iv (inv (blockOf l0))) 23 (0, 0)), ((G83 5), .cells (iv (inv (tr (blockOf l0)))) 23 (0, 0)), (g75, .cells (iv zeros) 23 (0, 0)), (g67, .cells (iv zeros) 23 (0, 0)), (g11, .cells (iv (tr (blockOf l0))) 23 (0, 0)), (g5, .cells (iv (blockOf l0)) 23 (0, 0))]) (by decide) (by kernel_rfl) (by kernel_rfl) M94.drew ?_
        refine seq_run (v := .int .i64 (n : Int)) (by decide) (by kernel_rfl) (fun w' M' => (by kernel_rfl)) ?_
        refine seq_run (v := .int .i64 ((n : Int) % 8)) (by decide) (by kernel_rfl) (fun w' M' => (int_of (rem_of (n : Int) 8 (by omega)) (by kernel_rfl))) ?_
        refine seq_run (v := .int .i64 (((n : Int) % 8) * 8)) (by decide) (by kernel_rfl) (fun w' M' => (i64_of (by omega) (by kernel_rfl))) ?_
        refine seq_run (v := .int .i64 (n : Int)) (by decide) (by kernel_rfl) (fun w' M' => (by kernel_rfl)) ?_
        refine seq_run (v := .int .i64 ((n : Int) / 8)) (by decide) (by kernel_rfl) (fun w' M' => (int_of (quo_of (n : Int) 8 (by omega) (by omega) (by omega)) (by kernel_rfl))) ?_
        refine seq_run (v := .int .i64 ((((n : Int) % 8) * 8) + ((n : Int) / 8))) (by decide) (by kernel_rfl) (fun w' M' => (i64_of (by omega) (by kernel_rfl))) ?_
        refine seq_run (v := .pointer (some ⟨g75, n % 8 * 8 + n / 8, none⟩)) (by decide) (by kernel_rfl) (fun w' M' => (run_indexAddr 23 (.tmp 8) (.tmp 55) rfl ⟨g75, 0, none⟩ .i64 (n % 8 * 8 + n / 8) (by kernel_rfl) (by kernel_rfl) Try.underlying23 1 (by kernel_rfl) (by omega) ⟨g75, n % 8 * 8 + n / 8, none⟩ (addr_at0 _ _))) ?_
        refine seq_run (v := .int .i64 (zeros.getD (n % 8 * 8 + n / 8) 0)) (by decide) (by kernel_rfl) (fun w' M' => (run_load_cell 3 (.tmp 56) rfl ⟨g75, n % 8 * 8 + n / 8, none⟩ (by kernel_rfl) _ (M'.cell 2 rfl (n % 8 * 8 + n / 8) _ (iv_get zeros (n % 8 * 8 + n / 8) (by rw [zeros_length]; omega))) (by kernel_rfl))) ?_
        refine seq_run (v := .int .i64 (n : Int)) (by decide) (by kernel_rfl) (fun w' M' => (by kernel_rfl)) ?_
        refine seq_run (v := .pointer (some ⟨g67, n, none⟩)) (by decide) (by kernel_rfl) (fun w' M' => (run_indexAddr 23 (.tmp 6) (.tmp 58) rfl ⟨g67, 0, none⟩ .i64 n (by kernel_rfl) (by kernel_rfl) Try.underlying23 1 (by kernel_rfl) (by omega) ⟨g67, n, none⟩ (addr_at0 _ _))) ?_
        refine seq_run (v := .int .i64 (zeros.getD n 0)) (by decide) (by kernel_rfl) (fun w' M' => (run_load_cell 3 (.tmp 59) rfl ⟨g67, n, none⟩ (by kernel_rfl) _ (M'.cell 3 rfl n _ (iv_get zeros n (by rw [zeros_length]; omega))) (by kernel_rfl))) ?_
        refine seq_run (v := .bool false) (by decide) (by kernel_rfl) (fun w' M' => (bool_of (neq_f (show (zeros.getD (n % 8 * 8 + n / 8) 0 : Int) = zeros.getD n 0 from tr_zero n (by omega))) (by kernel_rfl))) ?_
        refine seq_run (v := .bool false) (by decide) (by kernel_rfl) (fun w' M' => (by kernel_rfl)) ?_
        refine seq_run (v := .int .i64 (n : Int)) (by decide) (by kernel_rfl) (fun w' M' => (by kernel_rfl)) ?_
        refine seq_run (v := .int .i64 ((n : Int) % 8)) (by decide) (by kernel_rfl) (fun w' M' => (int_of (rem_of (n : Int) 8 (by omega)) (by kernel_rfl))) ?_
        refine seq_run (v := .int .i64 (((n : Int) % 8) * 8)) (by decide) (by kernel_rfl) (fun w' M' => (i64_of (by omega) (by kernel_rfl))) ?_
        refine seq_run (v := .int .i64 (n : Int)) (by decide) (by kernel_rfl) (fun w' M' => (by kernel_rfl)) ?_
        refine seq_run (v := .int .i64 ((n : Int) / 8)) (by decide) (by kernel_rfl) (fun w' M' => (int_of (quo_of (n : Int) 8 (by omega) (by omega) (by omega)) (by kernel_rfl))) ?_
        refine seq_run (v := .int .i64 ((((n : Int) % 8) * 8) + ((n : Int) / 8))) (by decide) (by kernel_rfl) (fun w' M' => (i64_of (by omega) (by kernel_rfl))) ?_
        refine seq_run (v := .pointer (some ⟨(G83 5), n % 8 * 8 + n / 8, none⟩)) (by decide) (by kernel_rfl) (fun w' M' => (run_indexAddr 23 (.tmp 11) (.tmp 68) rfl ⟨(G83 5), 0, none⟩ .i64 (n % 8 * 8 + n / 8) (by kernel_rfl) (by kernel_rfl) Try.underlying23 1 (by kernel_rfl) (by omega) ⟨(G83 5), n % 8 * 8 + n / 8, none⟩ (addr_at0 _ _))) ?_
        refine seq_run (v := .int .i64 ((inv (tr (blockOf l0))).getD (n % 8 * 8 + n / 8) 0)) (by decide) (by kernel_rfl) (fun w' M' => (run_load_cell 3 (.tmp 69) rfl ⟨(G83 5), n % 8 * 8 + n / 8, none⟩ (by kernel_rfl) _ (M'.cell 1 rfl (n % 8 * 8 + n / 8) _ (iv_get (inv (tr (blockOf l0))) (n % 8 * 8 + n / 8) (by rw [(inv_length _)]; omega))) (by kernel_rfl))) ?_
        refine seq_run (v := .int .i64 (n : Int)) (by decide) (by kernel_rfl) (fun w' M' => (by kernel_rfl)) ?_
        refine seq_run (v := .pointer (some ⟨(G83 4), n, none⟩)) (by decide) (by kernel_rfl) (fun w' M' => (run_indexAddr 23 (.tmp 10) (.tmp 71) rfl ⟨(G83 4), 0, none⟩ .i64 n (by kernel_rfl) (by kernel_rfl) Try.underlying23 1 (by kernel_rfl) (by omega) ⟨(G83 4), n, none⟩ (addr_at0 _ _))) ?_
        refine seq_run (v := .int .i64 ((inv (blockOf l0)).getD n 0)) (by decide) (by kernel_rfl) (fun w' M' => (run_load_cell 3 (.tmp 72) rfl ⟨(G83 4), n, none⟩ (by kernel_rfl) _ (M'.cell 0 rfl n _ (iv_get (inv (blockOf l0)) n (by rw [(inv_length _)]; omega))) (by kernel_rfl))) ?_
        refine seq_run (v := .bool false) (by decide) (by kernel_rfl) (fun w' M' => (bool_of (neq_f (show ((inv (tr (blockOf l0))).getD (n % 8 * 8 + n / 8) 0 : Int) = (inv (blockOf l0)).getD n 0 from tr_inv l0 n (by omega))) (by kernel_rfl))) ?_
        refine seq_run (v := .bool false) (by decide) (by kernel_rfl) (fun w' M' => (by kernel_rfl)) ?_
        refine seq_end (by decide) ?_
        intro W99 M100
        refine wl_nil ?_
        refine hK98 _ _ ?_
        try clear hK98 K98
        refine wp_frame (a' := ⟨#[v0, undef, (u92 2), .pointer (some ⟨g5, 0, none⟩), .pointer (some ⟨g11, 0, none⟩), .int .i64 (k : Int), .pointer (some ⟨g67, 0, none⟩), .int .i64 2, .pointer (some ⟨g75, 0, none⟩), .int .i64 2, .pointer (some ⟨(G83 4), 0, none⟩), .pointer (some ⟨(G83 5), 0, none⟩), .int .i64 (n : Int), v0, .agg (iv (blockOf l0)), .int .i64 (k : Int), .bool false, (u16 17), (u16 18), (u16 19), (u16 20), (u16 21), (u16 22), (u16 23), (u16 24), (u16 25), (u16 26), (u16 27), (u16 28), .tuple #[.agg (iv zeros), .int .i64 2], .agg (iv (blockOf l0)), .tuple #[.agg (iv zeros), .int .i64 2], .agg (iv zeros), .int .i64 2, .tuple #[.agg (iv zeros), .int .i64 2], .agg (iv (tr (blockOf l0))), .tuple #[.agg (iv zeros), .int .i64 2], .agg (iv zeros), .int .i64 2, .int .i64 2, .int .i64 2, .bool false, .agg (iv (blockOf l0)), .agg (iv (inv (blockOf l0))), .agg (iv (tr (blockOf l0))), .agg (iv (inv (tr (blockOf l0)))), .int .i64 (n : Int), .bool true, (u92 48), (u92 49), .int .i64 (n : Int), .int .i64 ((n : Int) % 8), .int .i64 (((n : Int) % 8) * 8), .int .i64 (n : Int), .int .i64 ((n : Int) / 8), .int .i64 ((((n : Int) % 8) * 8) + ((n : Int) / 8)), .pointer (some ⟨g75, n % 8 * 8 + n / 8, none⟩), .int .i64 (zeros.getD (n % 8 * 8 + n / 8) 0), .int .i64 (n : Int), .pointer (some ⟨g67, n, none⟩), .int .i64 (zeros.getD n 0), .bool false, .bool false, .int .i64 (n : Int), .int .i64 ((n : Int) % 8), .int .i64 (((n : Int) % 8) * 8), .int .i64 (n : Int), .int .i64 ((n : Int) / 8), .int .i64 ((((n : Int) % 8) * 8) + ((n : Int) / 8)), .pointer (some ⟨(G83 5), n % 8 * 8 + n / 8, none⟩), .int .i64 ((inv (tr (blockOf l0))).getD (n % 8 * 8 + n / 8) 0), .int .i64 (n : Int), .pointer (some ⟨(G83 4), n, none⟩), .int .i64 ((inv (blockOf l0)).getD n 0), .bool false, .bool false, undef], []⟩) (by kernel_rfl) ?_
        refine wp_cond_false (by kernel_rfl) ?_
        refine wp_skip ?_
        refine blk_normal ?_
        refine hK97 _ _ ?_
        try clear hK97 K97
        refine wl_region ?_
        refine st_val (.int .i64 (n : Int)) (by kernel_rfl) (by kernel_rfl) ?_
        refine st_val (.int .i64 ((n : Int) + 1)) (by kernel_rfl) (i64_of (by omega) (by kernel_rfl)) ?_
        refine st_val (.int .i64 ((n : Int) + 1)) (by kernel_rfl) (by kernel_rfl) ?_
        refine wl_nil ?_
        refine th_normal ?_
        exact ⟨_, by omega, (n + 1), (fun zz => Array.getD #[v0, undef, (u92 2), .pointer (some ⟨g5, 0, none⟩), .pointer (some ⟨g11, 0, none⟩), .int .i64 (k : Int), .pointer (some ⟨g67, 0, none⟩), .int .i64 2, .pointer (some ⟨g75, 0, none⟩), .int .i64 2, .pointer (some ⟨(G83 4), 0, none⟩), .pointer (some ⟨(G83 5), 0, none⟩), .int .i64 ((n : Int) + 1), v0, .agg (iv (blockOf l0)), .int .i64 (k : Int), .bool false, (u16 17), (u16 18), (u16 19), (u16 20), (u16 21), (u16 22), (u16 23), (u16 24), (u16 25), (u16 26), (u16 27), (u16 28), .tuple #[.agg (iv zeros), .int .i64 2], .agg (iv (blockOf l0)), .tuple #[.agg (iv zeros), .int .i64 2], .agg (iv zeros), .int .i64 2, .tuple #[.agg (iv zeros), .int .i64 2], .agg (iv (tr (blockOf l0))), .tuple #[.agg (iv zeros), .int .i64 2], .agg (iv zeros), .int .i64 2, .int .i64 2, .int .i64 2, .bool false, .agg (iv (blockOf l0)), .agg (iv (inv (blockOf l0))), .agg (iv (tr (blockOf l0))), .agg (iv (inv (tr (blockOf l0)))), .int .i64 (n : Int), .bool true, .int .i64 (n : Int), .int .i64 ((n : Int) + 1), .int .i64 (n : Int), .int .i64 ((n : Int) % 8), .int .i64 (((n : Int) % 8) * 8), .int .i64 (n : Int), .int .i64 ((n : Int) / 8), .int .i64 ((((n : Int) % 8) * 8) + ((n : Int) / 8)), .pointer (some ⟨g75, n % 8 * 8 + n / 8, none⟩), .int .i64 (zeros.getD (n % 8 * 8 + n / 8) 0), .int .i64 (n : Int), .pointer (some ⟨g67, n, none⟩), .int .i64 (zeros.getD n 0), .bool false, .bool false, .int .i64 (n : Int), .int .i64 ((n : Int) % 8), .int .i64 (((n : Int) % 8) * 8), .int .i64 (n : Int), .int .i64 ((n : Int) / 8), .int .i64 ((((n : Int) % 8) * 8) + ((n : Int) / 8)), .pointer (some ⟨(G83 5), n % 8 * 8 + n / 8, none⟩), .int .i64 ((inv (tr (blockOf l0))).getD (n % 8 * 8 + n / 8) 0), .int .i64 (n : Int), .pointer (some ⟨(G83 4), n, none⟩), .int .i64 ((inv (blockOf l0)).getD n 0), .bool false, .bool false, undef] zz undef), ⟨by omega, M100⟩, rfl, (by kernel_rfl)⟩
      ·
        refine st_val (.bool false) (by kernel_rfl) (bool_of (dec_f c47) (by kernel_rfl)) ?_
        refine wl_nil ?_
        refine hK96 _ _ ?_
        try clear hK96 K96
        refine wp_cond_false (by kernel_rfl) ?_
        refine wp_exit ?_
        refine th_exit ?_
        refine th_exit ?_
        refine blk_exit ?_
        refine hK90 _ _ ?_
        try clear hK90 K90
        refine wp_seq_k (fun K101 hK101 => ?_)
        refine wl_region ?_
        refine st_callB M94 (.bool true) (by kernel_rfl) (args := #[]) (run_value_call 15 #[] _ rfl Try.func15 (by kernel_rfl) (by kernel_rfl) _ (by kernel_rfl)) (awake_walk W93) ?_
        intro W102 M103
        refine st_val (.bool true) (by kernel_rfl) (by kernel_rfl) ?_
        refine wl_nil ?_
        refine hK101 _ _ ?_
        try clear hK101 K101
        refine wp_ret ?_
        exact done1 2 (.bool true) (by kernel_rfl) (by kernel_rfl) (by kernel_rfl) ⟨rfl, M103.toBelow⟩
end Go.Proofs.Ytpjhehpgpfomjaa
